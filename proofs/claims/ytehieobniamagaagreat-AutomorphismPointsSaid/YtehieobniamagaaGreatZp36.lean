/- Walk of automorphism.Check (slices.IndexFunc and ContainsFunc by the templates of gen_finde.py). -/
import Derived.Test.YtehieobniamagaaGreatZp05
import Derived.Test.YtehieobniamagaaGreatZp31
import Derived.Test.YtehieobniamagaaGreatZp35
namespace Go.Proofs.YtehieobniamagaaGreat
set_option linter.unusedVariables false
set_option linter.unusedSimpArgs false
set_option maxRecDepth 100000
set_option maxHeartbeats 8000000
section
open Go.RowKit
theorem Kz(w:World)(p0 p1:Value)(v:Value)(n:Nat)(us:List Value)(hv:Sl w v n 1 us)(pr:Nat->Bool)
  (hp:∀(w1:World) (i:Nat) (u:Value),Ex w w1->us[i]?=some u->Calls Tryz.prog 72 #[u,p0,p1] w1 fun e w'=>e= .returned (.bool (pr i))/\Ex w1 w'):
  Calls Tryz.prog 129 #[v,.func (.func 72) #[] #[p0,p1]] w fun r w'=>r= .returned (.int .i64 (CM pr n))/\Ex w w':=by
 obtain⟨hl,a,cap,rfl,s1,s2,s3⟩:=hv;rw[Nat.mul_one]at hl;have S3:=Aa s3;have HP:=Aa hp;have HL:=Aa hl;unfold maxLen at s2;clear s3 hp hl;go_enter Tryz.func129,Tryz.ntmps129
 go_wp2_with fail
 go_loopg [5,8] n (fun gg _ i' wr=>∃i:Nat,i<=n/\n-i<=gg/\i'= .int .i64 i/\Hia (Ex w wr)/\Hia (∀j,j<i->pr j=false))
 case atStart=>exact⟨0,ac,ac,rfl,Aa (Ex.refl _),Aa (fun j hj=>ac)⟩
 case round=>
  obtain⟨i,hi,hg,rfl,aB,aA⟩:=hrel;by_cases hlt:i<n
  .obtain⟨u,hu⟩:∃u,us[i]?=some u:=⟨_,List.getElem?_eq_getElem az⟩;obtain⟨bb,o,rfl,hc⟩:=S3.o ac;have c1:=aB.o.cell (hc i u hu);have HC:=Aa (HP.o wr i u aB.o hu);have hlt':(i:Int)<(n:Int):=by omega
   clear hc hu
   cases hb:pr i with
   | true=>
    rw[hb]at HC;have HF:=Aa (Co hlt hb aA.o);clear hb;go_wp2_with (go_at_call 72;refine HC.o.mono ?_;rintro e w'⟨rfl,hx⟩;have HX:=Aa (aB.o.trans hx);clear hx)
    go_ret;exact⟨Af HF.o.symm,HX.o⟩
   | false=>
    rw[hb]at HC;have HA:=Aa (show ∀j,j<i+1->pr j=false from fun j hj=>by
     by_cases e:j=i
     .subst e;exact hb
     .exact aA.o j ac)
    clear hb;go_wp2_with (go_at_call 72;refine HC.o.mono ?_;rintro e w'⟨rfl,hx⟩;have HX:=Aa (aB.o.trans hx);clear hx)
    exact zbB
  .exact zaF
theorem HJ(w:World)(p0 p1:Value)(v:Value)(n:Nat)(us:List Value)(hv:Sl w v n 1 us)(pr:Nat->Bool)
  (hp:∀(w1:World) (i:Nat) (u:Value),Ex w w1->us[i]?=some u->Calls Tryz.prog 72 #[u,p0,p1] w1 fun e w'=>e= .returned (.bool (pr i))/\Ex w1 w'):
  Calls Tryz.prog 71 #[v,.func (.func 72) #[] #[p0,p1]] w fun r w'=>r= .returned (.bool ((List.range n).any pr))/\Ex w w':=by
 have HC:=Aa (Kz w p0 p1 v n us hv pr hp);have HB:=Aa (DW pr n);obtain⟨z,hz⟩:=nA (CM pr n);rw[hz]at HC HB;clear hz hp hv;go_enter Tryz.func71,Tryz.ntmps71
 go_wp2_with (go_at_call 129;refine HC.o.mono ?_;rintro e w'⟨rfl,hx⟩;have HX:=Aa hx;clear hx)
 go_ret;exact⟨Ao HB.o.symm,HX.o⟩
section
variable {b p m x0 N:Nat} {ml:List Int} {rows:List (List Int)}
theorem Wq(w:World)(hg:AR w b p m ml x0)(aD:1<=N)(hN:N<=64)(hd:N*(p^m-1)<=64)(ho:Cm p m ml N rows 0)(m1 v1:Value)(hc:(⟨p,m,ml,N,rows⟩:AZ).at w m1 v1)(P:List Int)(pv:Value)(hp:Ak w pv P)(aA:P.length=N*(p^m-1))(aB:∀x∈P,0<=x/\x<(P.length:Int))
  (GB CB:Nat) (g0:w.cell? ⟨GB,0,none⟩=some (.pointer (some ⟨b,0,none⟩))) (c0:w.cell? ⟨CB,0,none⟩=some (.int .i64 p)) (c1:w.cell? ⟨CB,1,none⟩=some (.int .i64 m)) (c2:w.cell? ⟨CB,2,none⟩=some m1) (c3:w.cell? ⟨CB,3,none⟩=some (.int .i64 N)) (c4:w.cell? ⟨CB,4,none⟩=some v1):
  Calls Tryz.prog 72 #[pv,.pointer (some ⟨GB,0,none⟩),.pointer (some ⟨CB,0,none⟩)] w fun r w'=>r= .returned (.bool (!Fg p m ml N rows P))/\Ex w w':=by
 have HM:=Aa (Pg w hg aD hN hd ho m1 v1 hc P pv hp aA aB);unfold AZ.arg at HM;dsimp only at HM;obtain⟨x1,y1,rfl,-,-,-⟩:=hc.g.open;obtain⟨x3,y3,rfl,-,-,-⟩:=hc.m.open;obtain⟨x5,y5,rfl,-,-,-⟩:=hp.open;obtain⟨MB,aC⟩:∃x,Fg p m ml N rows P=x:=⟨_,rfl⟩;rw[aC]at HM ⊢;clear aC hg hc hp ho aA aB hd;go_enter Tryz.func72,Tryz.ntmps72
 go_wp2_with (go_at_call 73;refine HM.o.mono ?_;rintro e w'⟨rfl,hx⟩;have HX:=Aa hx;clear hx)
 go_ret;exact⟨rfl,HX.o⟩
end
open Classical in
noncomputable def Tn (c:AZ) (L:List Lv):Bool:=decide (∀l∈L,∀r∈l.reps,Fg c.p.toNat c.m.toNat c.ml c.n.toNat c.rows r=true)
theorem NE{c:AZ}{L:List Lv}:Tn c L=true↔∀l∈L,∀r∈l.reps,Fg c.p.toNat c.m.toNat c.ml c.n.toNat c.rows r=true:=by
 unfold Tn;simp only[decide_eq_true_eq]
def UL(c:AZ)(dg:Int)(L:List Lv)(xs:List FW):Prop:=Be dg L=0/\dg=JV c/\Tn c L=true/\JP c (c.p.toNat^c.m.toNat) L (AD c) xs=true
def UI(c:AZ)(dg:Int)(L:List Lv)(xs:List FW)(r:Ending)(w':World):Prop:=∃e0:Int,Cm c.p c.m c.ml c.n c.rows e0/\
 ((Ii c e0≠0/\r= .returned (.tuple #[.slice none 0 0,.int .i64 (Ii c e0)]))∨
 (Ii c e0=0/\¬UL c dg L xs/\r= .returned (.tuple #[.slice none 0 0,.int .i64 13]))∨
 (Ii c e0=0/\UL c dg L xs/\∃v,r= .returned (.tuple #[v,.int .i64 0])/\GU w' v (G6 L)))
theorem zbe{P:Prop}(h:P:=by
 go_wp2_with fail
 exact bodyPost_ret (v:= .tuple #[.slice none 0 0,.int .i64 13]) (by simp[results,Tryz.results29,go_sem]) rfl ⟨aQ.o _ _ (HR.o _),aH.o⟩):P:=h
theorem zbi{P:Prop}(h:P:=by
 exact bodyPost_ret (v:= .tuple #[.slice none 0 0,.int .i64 13]) (by simp[results,Tryz.results29,go_sem]) rfl ⟨aQ.o _ _ (HR.o _),aP.o⟩):P:=h
theorem Oy(w:World)(c:AZ)(m1 v1:Value)(hc:c.at w m1 v1)(dg:Int)(L:List Lv)(lv:Value)(hL:Eh w lv L)(cQ:(Bb L).length<=1000)(xs:List FW)(rv:Value)(hx:Ke w rv xs):
  Calls Tryz.prog 29 #[c.arg m1 v1,.agg #[.int .i64 dg,lv,rv]] w fun r w'=>UI c dg L xs r w'/\Ex w w':=by
 obtain⟨c0,c1,c2,c3,c4⟩:=Dv w c m1 v1;have cI:=AI w (c.obj m1 v1);have cL:(w.alloc (c.obj m1 v1)).heap.size=w.heap.size+1:=ag;have aA:=AI (w.alloc (c.obj m1 v1)) (.cells #[.int .i64 dg,lv,rv] 53);have s0:((w.alloc (c.obj m1 v1)).alloc (.cells #[.int .i64 dg,lv,rv] 53)).cell? ⟨(w.alloc (c.obj m1 v1)).heap.size,0,none⟩=some (.int .i64 dg):=ag;have s1:((w.alloc (c.obj m1 v1)).alloc (.cells #[.int .i64 dg,lv,rv] 53)).cell? ⟨(w.alloc (c.obj m1 v1)).heap.size,1,none⟩=some lv:=ag;have s2:((w.alloc (c.obj m1 v1)).alloc (.cells #[.int .i64 dg,lv,rv] 53)).cell? ⟨(w.alloc (c.obj m1 v1)).heap.size,2,none⟩=some rv:=ag;rw[cL]at s0 s1 s2;have aN:=Aa (cI.trans aA);have bG:=Aa (hc.ex aN.o);have HL:=Aa (hL.ex aN.o);have HX:=Aa (hx.ex aN.o);have aR:=Aa (Jr _ c m1 v1 bG.o);obtain⟨x1,y1,cK,-,z1,-⟩:=hc.g.open;obtain⟨x3,y3,cJ,-,z3,-⟩:=hc.m.open;obtain⟨la,lc,dJ,-,zl,-⟩:=hL.open3;obtain⟨ra,rc,dG,-,zr,-⟩:=hx.open;unfold maxLen at z1 z3 zl zr;obtain⟨B,hB⟩:=nA w.heap.size;rw[hB]at c0 c1 c2 c3 c4 s0 s1 s2;replace c0:=aA.cell c0;replace c1:=aA.cell c1;replace c2:=aA.cell c2;replace c3:=aA.cell c3;replace c4:=aA.cell c4;obtain⟨C,hC⟩:∃C:AZ,C=c:=⟨_,rfl⟩;have aO:=Aa hC;have aQ:=Aa (show ∀r w',UI C dg L xs r w'->UI c dg L xs r w' from fun r w' h=>by rw[<-hC];exact h);obtain⟨cp,cm,aB,cn,aC⟩:=c;unfold AZ.arg at aR ⊢;unfold AZ.obj at aN bG HL HX aR c0 c1 c2 c3 c4 s0 s1 s2;dsimp only at aN bG HL HX aR c0 c1 c2 c3 c4 s0 s1 s2 cK cJ ⊢;rw[<-hC]at aR;subst cK cJ dJ dG;clear hc cI aA hL hx cL hC;have dA:=Aa cQ;clear cQ;go_enter Tryz.func29,Tryz.ntmps29
 go_upto_region 1 with fail
 have aW:(w.alloc (.cells #[.int .i64 cp,.int .i64 cm,.slice x3 aB.length y3,.int .i64 cn,.slice x1 aC.length y1] 39)).heap.size=B+1:=dy
 try simp only[aW]
 try simp only[hB]
 clear hB aW;generalize (w.alloc (.cells #[.int .i64 cp,.int .i64 cm,.slice x3 aB.length y3,.int .i64 cn,.slice x1 aC.length y1] 39)).alloc (.cells #[.int .i64 dg,.slice la L.length lc,.slice ra xs.length rc] 53)=w1 at *;go_wp2_with fail
 refine aR.o.mono ?_;rintro e w2⟨⟨e0,cR,ho⟩,aA⟩;have bB:=Aa aA;have bM:=Aa cR;replace c0:=aA.cell c0;replace c1:=aA.cell c1;replace c2:=aA.cell c2;replace c3:=aA.cell c3;replace c4:=aA.cell c4;replace s0:=aA.cell s0;replace s1:=aA.cell s1;replace s2:=aA.cell s2;clear aA cR aR;obtain⟨OE,aM⟩:∃x,Ii C e0=x:=⟨_,rfl⟩;rw[aM]at ho;have bL:=Aa aM;rcases ho with⟨h0,ptr,d,rfl⟩|⟨h0,pn,mn,N,b,x0,hp,hm,hn,hN1,hN64,hD,rfl,hg,hx1,aA⟩
 .have hb:(OE !=0)=true:=by simpa using h0
  have H0:=Aa h0;have aP:=Aa (fun o=>aN.o.trans (bB.o.trans (AI w2 o)));clear h0 aM;go_wp2_with fail
  exact bodyPost_ret (v:= .tuple #[.slice none 0 0,.int .i64 OE]) (by simp[results,Tryz.results29,go_sem]) rfl ⟨aQ.o _ _ ⟨e0,bM.o,.inl ⟨by rw[bL.o];exact H0.o,by rw[bL.o]⟩⟩,aP.o _⟩
 .subst h0;have dX:=Aa (show e0=0 from by
   unfold Ii at aM;split at aM
   .exact aM
   .omega)
  have dM:cn=(N:Int):=by have:=aO.o;rw[this]at hn;exact hn
  have dL:cp=(pn:Int):=by have:=aO.o;rw[this]at hp;exact hp
  have dN:cm=(mn:Int):=by have:=aO.o;rw[this]at hm;exact hm
  subst dM dL dN;have cV:=Aa (show Cm pn mn aB N aC 0 from by have h1:=bM.o;rw[aO.o,dX.o]at h1;exact h1);have dC:=Aa (show(JV C:Int)=((N*(pn^mn-1):Nat):Int) from by unfold JV;rw[hp,hm,hn];rfl);have dV:=Aa (show AD C=DA N (pn^mn) from by unfold AD;rw[hp,hm,hn];rfl);have cX:=Aa (show(∀l∈L,∀r∈l.reps,Fg pn mn aB N aC r=true)↔Tn C L=true from by rw[NE,aO.o];exact Iff.rfl);have dB:=Aa (show JP C (C.p.toNat^C.m.toNat) L (AD C) xs=JP ⟨pn,mn,aB,N,aC⟩ (pn^mn) L (DA N (pn^mn)) xs from by rw[dV.o,aO.o];first|done|rfl);have aK:=Aa (show ¬UL C dg L xs->∀(w':World),UI C dg L xs (.returned (.tuple #[.slice none 0 0,.int .i64 13])) w' from fun h w'=>⟨e0,bM.o,.inr (.inl ⟨bL.o,h,rfl⟩)⟩);have cF:=Aa (show UL C dg L xs->∀(w':World) (v:Value),GU w' v (G6 L)->UI C dg L xs (.returned (.tuple #[v,.int .i64 0])) w' from fun h w' v hv=>⟨e0,bM.o,.inr (.inr ⟨bL.o,h,v,rfl,hv⟩)⟩);have HG:=Aa (show AR w2 b pn mn aB x0 from by have h:=hg;rw[aO.o]at h;exact h);have HN:=Aa (show 1<=N/\N<=64/\N*(pn^mn-1)<=64 from⟨hN1,hN64,hD⟩);have bF:=Aa (bG.o.ex bB.o);have bY:=Aa (HL.o.ex bB.o);have dW:=Aa (HX.o.ex bB.o);have aD:=Aa (AI w2 (.cells #[.pointer (some ⟨b,0,none⟩)] 97));have g0:(w2.alloc (.cells #[.pointer (some ⟨b,0,none⟩)] 97)).cell? ⟨w2.heap.size,0,none⟩=some (.pointer (some ⟨b,0,none⟩)):=by simp
  obtain⟨GB,bU⟩:∃x,w2.heap.size=x:=⟨_,rfl⟩;rw[bU]at g0;obtain⟨D,bV⟩:=nA (N*(pn^mn-1));have cA:=Aa bV;rw[bV];clear hp hm hn hN1 hN64 hD hg hx1 aA aM bV bG HL HX;go_upto_region 2 with fail
  try simp only[bU]
  clear bU;generalize w2.alloc (.cells #[.pointer (some ⟨b,0,none⟩)] 97)=w3 at *;replace c0:=aD.o.cell c0;replace c1:=aD.o.cell c1;replace c2:=aD.o.cell c2;replace c3:=aD.o.cell c3;replace c4:=aD.o.cell c4;replace s0:=aD.o.cell s0;replace s1:=aD.o.cell s1;replace s2:=aD.o.cell s2;have aJ:=Aa (aN.o.trans (bB.o.trans aD.o));have cZ:=Aa (bY.o.ex aD.o);have cB:=Aa (fun (w5:World) (h5:Ex w3 w5)=>(⟨h5.cell c0,h5.cell c1,h5.cell c2,h5.cell c3,h5.cell c4,h5.cell s0,h5.cell s1,h5.cell s2,h5.cell g0⟩:w5.cell? ⟨B,0,none⟩=some (.int .i64 pn)/\w5.cell? ⟨B,1,none⟩=some (.int .i64 mn)/\w5.cell? ⟨B,2,none⟩=some (.slice x3 aB.length y3)/\w5.cell? ⟨B,3,none⟩=some (.int .i64 N)/\w5.cell? ⟨B,4,none⟩=some (.slice x1 aC.length y1)/\w5.cell? ⟨B+1,0,none⟩=some (.int .i64 dg)/\w5.cell? ⟨B+1,1,none⟩=some (.slice la L.length lc)/\w5.cell? ⟨B+1,2,none⟩=some (.slice ra xs.length rc)/\w5.cell? ⟨GB,0,none⟩=some (.pointer (some ⟨b,0,none⟩))));have bN:=Aa (FH w3 dg L _ cZ.o dA.o);obtain⟨KK,bT⟩:∃x,Be dg L=x:=⟨_,rfl⟩;rw[bT]at bN;have bD:=Aa bT;clear bT;by_cases hk:KK=0
  rotate_left
  .have hb:(KK !=0)=true:=by simpa using hk
   have HR:=Aa (aK.o fun h=>hk (bD.o.symm.trans h.1));clear hk;go_wp2_with fail
   refine bN.o.mono ?_;rintro e w5⟨rfl,aG⟩;have aH:=Aa (aJ.o.trans aG);clear aG c0 c1 c2 c3 c4 s0 s1 s2 g0;exact zbe
  .subst hk;by_cases hdg:dg=(D:Int)
   rotate_left
   .have hb:(dg !=(D:Int))=true:=by simpa using hdg
    have HR:=Aa (aK.o fun h=>hdg (h.2.1.trans (by rw[dC.o,cA.o])));clear hdg;go_wp2_with fail
    refine bN.o.mono ?_;rintro e w5⟨rfl,aG⟩;have aH:=Aa (aJ.o.trans aG);replace s0:=aG.cell s0;clear aG c0 c1 c2 c3 c4 s1 s2 g0;exact zbe
   .subst hdg;have dS:=Aa (show ∀l∈L,∀r∈l.reps,r.length=N*(pn^mn-1)/\∀x∈r,0<=x/\x<(r.length:Int) from fun l hl r hr=>by
     have h1:Be (D:Int) L=0:=bD.o;unfold Be at h1;split at h1
     .cases h1
     .split at h1
      .rename_i h2 h3;obtain⟨N',h4,-,-,S,h5,h6⟩:=IW h3.1;have h7:r∈Bb L:=by unfold Bb;exact List.mem_flatMap.2 ⟨l,hl,hr⟩
       rw[h5]at h7;obtain⟨f,hf,rfl⟩:=List.mem_map.1 h7;have h8:(li N' f).length=N':=Em _ _;refine⟨by rw[h8,cA.o];omega,fun x hx=>?_⟩;rw[h8];obtain⟨i,hi⟩:=List.mem_iff_getElem?.1 hx;have h9:i<N':=by have:=(List.getElem?_eq_some_iff.1 hi).1;rw[h8]at this;exact this
       rw[CY h9]at hi;injection hi with hi;have:=(h6 f hf).lt i h9;omega
      .cases h1)
    go_upto_region 6 with (go_at_call 70;refine bN.o.mono ?_;rintro e w5⟨rfl,aG⟩;have aH:=Aa aG;replace s0:=aG.cell s0;clear aG)
    clear c0 c1 c2 c3 c4 s0 s1 s2 g0;obtain⟨LL,bH⟩:∃n,L.length=n:=⟨_,rfl⟩;have bC:=Aa bH;obtain⟨la2,lc2,cM,dE,dD,cG⟩:=(cZ.o.ex aH.o).open3;have dK:la=la2:=by injection cM
    subst dK;have Z3:=Aa (show 0<LL->_ from fun h=>cG (by rw[bH];exact h));have dT:=Aa (show LL<=1048576 from by
     have h1:Be (D:Int) L=0:=bD.o;obtain⟨n,e1,h2,h3,S,h4,h5,h6⟩:=QV h1;rw[<-bH,h6,List.length_map];unfold Nu;exact Nat.le_trans (List.length_filter_le _ _) (by rw[List.length_range];omega))
    obtain⟨c0,c1,c2,c3,c4,s0,s1,s2,g0⟩:=cB.o w5 aH.o;have H0:=Aa (show ∀l∈L.take 0,∀r∈l.reps,Fg pn mn aB N aC r=true from fun l hl=>by simp at hl);clear cM dE dD cG bH;go_upto_region 7 with fail
    simp only[bC.o];clear c0 c1 c2 c3 c4 s0 s1 s2 g0
    go_loopw [35] (fun k' wr=>∃k:Nat,k<=LL/\k'= .int .i64 k/\Hia (Ex w5 wr)/\Hia (∀l∈L.take k,∀r∈l.reps,Fg pn mn aB N aC r=true)) (fun k' _=>LL-(intOf k').toNat)
    case atStart=>exact⟨0,ac,rfl,Aa (Ex.refl _),H0⟩
    case round=>
     clear H0;obtain⟨k,hk,rfl,aF,aI⟩:=hrel;by_cases hkl:k<LL
     .obtain⟨eb,eo,rfl,cS⟩:=Z3.o ac;obtain⟨l,hl⟩:∃l,L[k]?=some l:=⟨_,List.getElem?_eq_getElem (by rw[bC.o];exact hkl)⟩;obtain⟨ou,orr,d0,d1,d2,k4,k5⟩:=cS k l hl;obtain⟨oa,oc,rfl,-,-,-⟩:=k4.open;clear k4;replace d0:=aF.o.cell d0;replace d1:=aF.o.cell d1;replace d2:=aF.o.cell d2;have cY:=Aa (List.mem_of_getElem? hl);have dU:=Aa hl;have bZ:=Aa hkl;have dR:=Aa (k5.ex aF.o);obtain⟨qa,qc,rfl,-,-,-⟩:=k5.open;have i1:(0:Int)<=(k:Int):=by omega
      have i2:(k:Int)<(LL:Int):=ac;have hk64:k<=1048576:=by have:=dT.o;omega
      have bI:=Aa aF.o;have cE:=Aa aI.o;clear cS hl hkl k5 aF aI;go_upto_region 9 with fail
      have bx:∀x:Nat,wr.heap.size=x->(wr.alloc (.cells #[.int .i64 l.pt,.slice oa l.orb.length oc,.slice qa l.reps.length qc] 90)).cell? ⟨x,2,none⟩=some (.slice qa l.reps.length qc):=fun x h=>by subst h;simp
      obtain⟨XB,bS⟩:∃x,wr.heap.size=x:=⟨_,rfl⟩;have x2':=bx XB bS;have bK:=Aa (AI wr (.cells #[.int .i64 l.pt,.slice oa l.orb.length oc,.slice qa l.reps.length qc] 90))
      try simp only[bS]
      clear bS d0 d1 d2 i1 i2 bx;generalize wr.alloc (.cells #[.int .i64 l.pt,.slice oa l.orb.length oc,.slice qa l.reps.length qc] 90)=w6 at *;have bA:=Aa (aH.o.trans (bI.o.trans bK.o));obtain⟨pr,cN⟩:∃pr:Nat->Bool,∀(j:Nat) (r:List Int),l.reps[j]?=some r->pr j=!Fg pn mn aB N aC r:=⟨fun j=>match l.reps[j]? with|some r=> !Fg pn mn aB N aC r|none=>false,fun j r h=>by simp[h]⟩;have bX:=Aa cN;obtain⟨vals,bP,cH⟩:=dR.o.ex bK.o;have cC:=Aa (HJ w6 (.pointer (some ⟨GB,0,none⟩)) (.pointer (some ⟨B,0,none⟩)) (.slice qa l.reps.length qc) l.reps.length vals bP pr (fun w7 i u h7 hu=>by
       have hil:i<l.reps.length:=by
        have h1:=(List.getElem?_eq_some_iff.1 hu).1;have h2:=bP.1;omega
       have bQ:l.reps[i]?=some (l.reps[i]'hil):=List.getElem?_eq_getElem _;rw[bX.o i _ bQ];obtain⟨c0,c1,c2,c3,c4,-,-,-,g0⟩:=cB.o w7 (bA.o.trans h7);obtain⟨dI,dH⟩:=dS.o l cY.o _ (List.mem_of_getElem? bQ);have aU:=aD.o.trans (bA.o.trans h7);exact Wq w7 (HG.o.ex aU) HN.o.1 HN.o.2.1 HN.o.2.2 cV.o _ _ (bF.o.ex aU) _ u ((cH i _ u bQ hu).ex h7) dI dH GB B g0 c0 c1 c2 c3 c4))
      obtain⟨AN,bW⟩:∃x,(List.range l.reps.length).any pr=x:=⟨_,rfl⟩;rw[bW]at cC;have bO:=Aa bW;clear cN bW bP cH;have aX:AN=true->¬(∀r∈l.reps,Fg pn mn aB N aC r=true):=fun h dO=>by
       rw[h]at bO;obtain⟨j,hj,hp⟩:=List.any_eq_true.1 bO.o;have cP:=List.mem_range.1 hj;rw[bX.o j _ (List.getElem?_eq_getElem cP),dO _ (List.getElem_mem cP)]at hp;cases hp
      have aL:AN=false->∀r∈l.reps,Fg pn mn aB N aC r=true:=fun h r hr=>by
       rw[h]at bO;obtain⟨j,hj,rfl⟩:=List.getElem_of_mem hr;have h1:=List.any_eq_false.1 bO.o j (List.mem_range.2 hj);rw[bX.o j _ (List.getElem?_eq_getElem hj)]at h1;simpa using h1
      have cD:=Aa aX;have bE:=Aa aL;clear aX aL
      cases AN with
      | true=>
       have HR:=Aa (aK.o fun h=>cD.o rfl (cX.o.2 h.2.2.1 l cY.o));go_wp2_with (go_at_call 71;refine cC.o.mono ?_;rintro e w8⟨rfl,aT⟩;have bJ:=Aa (bI.o.trans (bK.o.trans aT));clear aT)
       have aP:=Aa (aJ.o.trans (aH.o.trans bJ.o));exact zbi
      | false=>
       have cW:=Aa (show ∀l∈L.take (k+1),∀r∈l.reps,Fg pn mn aB N aC r=true from fun l' cO r hr=>by
        rw[List.take_add_one,dU.o]at cO;rcases List.mem_append.1 cO with h|h
        .exact cE.o l' h r hr
        .simp at h;subst h;exact bE.o rfl r hr)
       go_wp2_with (go_at_call 71;refine cC.o.mono ?_;rintro e w8⟨rfl,aT⟩;have bJ:=Aa (bI.o.trans (bK.o.trans aT));clear aT)
       go_roundw
       case rel=>first|exact⟨k+1,by have:=bZ.o;omega,by go_num,bJ,cW⟩|((repeat apply Exists.intro);exact⟨⟨k+1,by have:=bZ.o;omega,by go_num,bJ,cW⟩,rfl⟩)
       case measure=>have:=bZ.o;simp[intOf];omega
     .obtain rfl:LL=k:=by omega
      have HM:=Aa (cX.o.1 (by have h:=aI.o;rwa[List.take_of_length_le (by rw[bC.o];exact Nat.le_refl _)]at h));have bI:=Aa aF.o;have aZ:=Aa (aH.o.trans aF.o);have aE:=Aa (aD.o.trans (aH.o.trans aF.o));clear aF aI hkl;obtain⟨c0,c1,c2,c3,c4,s0,s1,s2,g0⟩:=cB.o wr aZ.o;have aY:=Aa (Mt wr (HG.o.ex aE.o) HN.o.1 HN.o.2.1 HN.o.2.2 cV.o _ _ (bF.o.ex aE.o) (D:Int) L _ (bY.o.ex aE.o) xs _ (dW.o.ex aE.o));unfold AZ.arg at aY;dsimp only at aY;obtain⟨XK,bR⟩:∃x,JP ⟨pn,mn,aB,N,aC⟩ (pn^mn) L (DA N (pn^mn)) xs=x:=⟨_,rfl⟩;rw[bR]at aY;rw[bC.o]at aY s1;have cT:=Aa bR;clear bR;go_wp2_with fail
      refine aY.o.mono ?_;rintro e w9⟨rfl,aS⟩;have dQ:=Aa aS;replace s0:=aS.cell s0;replace s1:=aS.cell s1;have aP:=Aa (aJ.o.trans (aZ.o.trans aS));clear aS c0 c1 c2 c3 c4 s2 g0
      cases XK with
      | false=>
       have HR:=Aa (aK.o fun h=>by have h1:=h.2.2.2;rw[dB.o,cT.o]at h1;cases h1);go_wp2_with fail
       exact zbi
      | true=>
       have HA:=Aa (cF.o ⟨bD.o,by rw[dC.o,cA.o],HM.o,by rw[dB.o,cT.o]⟩);have cU:=Aa (Oo w9 (D:Int) L _ (bY.o.ex (aE.o.trans dQ.o)) dA.o);rw[bC.o]at cU;go_wp2_with fail
       refine cU.o.mono ?_;rintro e w10⟨dF,aV⟩;rcases dF with⟨h1,-⟩|⟨-,v,rfl,hv⟩
       .exact absurd bD.o h1
       .have HV:=Aa hv;have dP:=Aa (aP.o.trans aV);clear hv aV s0 s1;go_wp2_with fail
        exact bodyPost_ret (v:= .tuple #[v,.int .i64 0]) (by simp[results,Tryz.results29,go_sem]) rfl ⟨aQ.o _ _ (HA.o _ _ HV.o),dP.o⟩
end
section
open Go.RowKit
section
variable {p m:Nat} {ml:List Int} {mv:Value}
theorem O0(w:World)(hf:Iz p m ml)(aF:Ak w mv ml)(i a:Nat)(hi:i<=256)(ha:a<=256):
  Calls Tryz.prog 79 #[.agg #[.int .i64 p,.int .i64 m,mv],.int .i64 i,.int .i64 a] w fun r w'=>r= .returned (.int .i64 ((i*(p^m-1)+a:Nat)-1:Int))/\Ex w w':=by
 obtain⟨d0,d1,d2,e0⟩:=B3 w p m mv;have aC:=Aa (CJ p m mv);rw[GF hf]at aC;have aB:1<=p^m:=Nat.le_trans (by have:=hf.p2;omega) (Nat.le_self_pow (by have:=hf.m1;omega) p);have aE:=hf.q;obtain⟨q,hq⟩:=nA (p^m);rw[hq]at aC aB aE ⊢;obtain⟨x3,y3,rfl,-,-,-⟩:=aF.open;obtain⟨Q,hQ⟩:=nA (q-1);obtain⟨PJ,aA⟩:∃x,i*Q=x:=⟨_,rfl⟩;have m2:PJ<=256*256:=by rw[<-aA];exact Nat.mul_le_mul hi ac
 have m3:(i:Int)*((q:Int)-1)=(PJ:Int):=by rw[<-aA,Int.natCast_mul,<-hQ,Int.natCast_sub aB];rfl
 have HR:=Aa (show((i*(q-1)+a:Nat)-1:Int)=(PJ:Int)+(a:Int)-1 from by rw[hQ,aA];simp);rw[HR.o];have i1:(a:Int)<=256:=by omega
 have i2:(PJ:Int)<=256*256:=ac;have i3:(q:Int)<=256:=ac;have i4:(1:Int)<=(q:Int):=ac;have i5:(i:Int)<=256:=ac;obtain⟨B,hB⟩:=nA w.heap.size;rw[hB]at d0 d1 d2;have HX:=Aa e0;clear aF hf hq hQ aA m2 e0 aB aE;go_enter Tryz.func79,Tryz.ntmps79
 go_upto_region 1 with fail
 try simp only[hB]
 clear hB;generalize w.alloc (.cells #[.int .i64 p,.int .i64 m,.slice x3 ml.length y3] 24)=w1 at *;go_wp2_with (go_at_call 14;refine(aC.o _).mono ?_;rintro e w5⟨rfl,aD⟩;have aG:=Aa aD;clear aD)
 go_ret;exact⟨rfl,HX.o.trans aG.o⟩
theorem zbD{P:Prop}(h:P:=by
 obtain⟨a0,a1,a2,b0,b1⟩:=aG.o w' H.hj.ex;clear H;go_simp;exact hK _ (Ex.refl w')):P:=h
theorem zal{P:Prop}(h:P:=by
 refine Di.val rfl (by decide) (by decide) rfl fun L V a w' H=>?_;refine⟨fun d hd=>(by cases hd),fun Kc hK=>?_⟩;have e2:a.tmps[2]?=some (.pointer (some ⟨B,0,none⟩)):=H.hout 2 (by kernel_rfl);exact zbD):P:=h
theorem zan{P:Prop}(h:P:=by
 refine Di.val rfl (by decide) (by decide) rfl fun L V a w' H=>?_;refine⟨fun d hd=>(by cases hd),fun Kc hK=>?_⟩;have e3:a.tmps[3]?=some (.pointer (some ⟨B+1,0,none⟩)):=H.hout 3 (by kernel_rfl);clear H;go_simp;exact hK _ (Ex.refl w')):P:=h
theorem zao{P:Prop}(h:P:=by
 refine Di.val rfl (by decide) (by decide) rfl fun L V a w' H=>?_;refine⟨fun d hd=>(by cases hd),fun Kc hK=>?_⟩;have e6:a.tmps[6]?=some (.int .i64 (i:Int)):=H.hout 6 (by kernel_rfl);clear H;go_simp;exact hK _ (Ex.refl w')):P:=h
theorem cd{P:Prop}(h:P:=by cases hd):P:=h
theorem Jh(w:World)(hf:Iz p m ml)(aL:Ak w mv ml)(N:Nat)(hN:N<=64)(pl sl:List Int)(pv sv:Value)(hp:Ak w pv pl)(hs:Ak w sv sl)(aR:pl.length=N)(aQ:sl.length=N)(hr:Bq pl N=true)(hd:N*(p^m-1)<=64)(fr:Int):
  Calls Tryz.prog 56 #[.agg #[.int .i64 p,.int .i64 m,mv],.agg #[pv,sv,.int .i64 fr]] w fun r w'=>∃v,r= .returned v/\w'.ownsRow w.heap.size 3 1 v (N*(p^m-1)) (vs (N*(p^m-1)) (iv (Jt p m ml pl sl)))/\Ex w w':=by
 obtain⟨a0,a1,a2,ea⟩:=B3 w p m mv;obtain⟨b0,b1,b2,eb⟩:=Az (w.alloc (.cells #[.int .i64 p,.int .i64 m,mv] 24)) pv sv fr;have aI:(w.alloc (.cells #[.int .i64 p,.int .i64 m,mv] 24)).heap.size=w.heap.size+1:=ag;rw[aI]at b0 b1 b2;replace a0:=eb.cell a0;replace a1:=eb.cell a1;replace a2:=eb.cell a2;have bR:=Aa (fun (w1:World) (h1:Ex w w1) (y z:Int)=>SU w1 hf (aL.ex h1) y z);have aW:=Aa (fun (w1:World) (h1:Ex w w1) (i a:Nat) (hi:i<=256) (ha:a<=256)=>O0 w1 hf (aL.ex h1) i a hi ha);have aP:=Aa (CJ p m mv);rw[GF hf]at aP;have cH:2<=p^m:=Nat.le_trans hf.p2 (Nat.le_self_pow (by have:=hf.m1;omega) p);have cG:=hf.q;have bT:=Aa (fun (x y:Nat)=>Cg (p:=p) (m:=m) (low:=lw ml) (by have:=hf.p2;omega) x y);obtain⟨x3,y3,rfl,_,_,_⟩:=aL.open;obtain⟨pa,pc,rfl,_,q2,p3⟩:=hp.open;obtain⟨sa,sc,rfl,_,s2,s3⟩:=hs.open;unfold maxLen at q2 s2;rw[aR]at p3;rw[aQ]at s3;have P3:=Aa p3;have S3:=Aa s3;have dE:=Aa (fun i (hi:i<N)=>Dk hr (i:=i) ac);have dK:=Aa (fun i (hi:i<N)=>Ay (l:=pl) (i:=i) ac);have dJ:=Aa (fun i (hi:i<N)=>Ay (l:=sl) (i:=i) ac);rw[aR,aQ]at a0 a1 a2 b0 b1 eb ⊢;have aF:=Aa (ea.trans eb);obtain⟨q,hq⟩:=nA (p^m);obtain⟨Q,hQ⟩:=nA (q-1);obtain⟨F,hF⟩:=nA (Jt p m ml pl sl);have dL:=Aa (show ∀i c:Nat,c<Q->F (i*Q+c)=((Et pl i*Q+Ar p m (lw ml) (AA q (sl.getD i 0)) (c+1):Nat):Int)-1 from fun i c hc=>by
  rw[<-hF];unfold Jt;rw[hq,hQ,Nat.mul_comm i Q,Nat.mul_add_div ac,Nat.mul_add_mod,Nat.div_eq_of_lt hc,Nat.mod_eq_of_lt hc,Nat.add_zero])
 rw[hq]at aP bR bT aW cH cG hd ⊢;rw[hQ]at aW hd ⊢;rw[hF];obtain⟨D,hD⟩:=nA (N*Q);have bX:=Aa (show ∀i,i<N->i*Q+Q<=D from fun i hi=>by rw[<-hD];have:=Nat.mul_le_mul_right Q (show i+1<=N from hi);rwa[Nat.succ_mul]at this);rw[hD]at hd ⊢;have aO:=Aa (show q=Q+1 from ac);have dN:=Aa hD;clear hf aL hp hs p3 s3 ea eb aR aQ hr hF hq hQ hD aI;go_enter Tryz.func56,Tryz.ntmps56
 go_upto_region 1 with fail
 obtain⟨B,hB⟩:=nA w.heap.size;have aI:(w.alloc (.cells #[.int .i64 p,.int .i64 m,.slice x3 ml.length y3] 24)).heap.size=B+1:=dy;rw[hB]at a0 a1 a2 b0 b1 b2
 try simp only[aI]
 try simp only[hB]
 have HBW:=Aa hB;clear hB aI;generalize (w.alloc (.cells #[.int .i64 p,.int .i64 m,.slice x3 ml.length y3] 24)).alloc (.cells #[.slice pa N pc,.slice sa N sc,.int .i64 fr] 26)=w1 at *;have bQ:=Aa (show w1.ownsRow w1.heap.size 3 1 (.slice none 0 0) (0*Q) (vs (0*Q) (iv F)) from by rw[Nat.zero_mul];exact World.ownsRow_nil _ _ _ _);have dC:=Aa (Ex.refl w1);have aG:=Aa (fun (w5:World) (h5:Ex w1 w5)=>(⟨h5.cell a0,h5.cell a1,h5.cell a2,h5.cell b0,h5.cell b1⟩:w5.cell? ⟨B,0,none⟩=some (.int .i64 p)/\w5.cell? ⟨B,1,none⟩=some (.int .i64 m)/\w5.cell? ⟨B,2,none⟩=some (.slice x3 ml.length y3)/\w5.cell? ⟨B+1,0,none⟩=some (.slice pa N pc)/\w5.cell? ⟨B+1,1,none⟩=some (.slice sa N sc)));clear a0 a1 a2 b0 b1 b2;go_wp2_with fail
 go_loopw [5,6] (fun v' i' wr=>∃i:Nat,i<=N/\i'= .int .i64 i/\Hia (wr.ownsRow w1.heap.size 3 1 v' (i*Q) (vs (i*Q) (iv F)))/\Hia (Ex w1 wr)) (fun _ i' _=>N-(intOf i').toNat)
 case atStart=>exact⟨0,ac,rfl,bQ,dC⟩
 case round=>
  clear bQ;obtain⟨i,hi,rfl,aA,aB⟩:=hrel;obtain⟨a0,a1,a2,b0,b1⟩:=aG.o wr aB.o;by_cases hin:i<N
  .obtain⟨pb,po,rfl,bE⟩:=P3.o ac;obtain⟨sb,so,rfl,bD⟩:=S3.o ac;have cI:=dE.o i hin;obtain⟨y,hy⟩:=nA (Et pl i);have bC:pl.getD i 0=(y:Int):=by rw[<-hy];unfold Et;omega
   have cE:y<N:=ac;have aU:=dK.o i hin;rw[bC]at aU;have dP:=Aa (aF.o.cell (bE i _ aU));obtain⟨s,hs⟩:=nA (sl.getD i 0);have aT:=dJ.o i hin;rw[hs]at aT;have dO:=Aa (aF.o.cell (bD i _ aT));have i1:(0:Int)<=(i:Int):=ac;have i2:(i:Int)<(N:Int):=ac;obtain⟨YQ,aM⟩:∃z,y*Q=z:=⟨_,rfl⟩;have HYD:=Aa (show YQ+Q<=D from by rw[<-aM];exact bX.o y cE);have bW:=Aa (show ∀c:Nat,c<Q->F (i*Q+c)=((YQ+Ar p m (lw ml) (AA q s) (c+1):Nat):Int)-1 from fun c hc=>by
    have:=dL.o i c hc;rw[hy,hs,aM]at this;exact this)
   have bV:=Aa (bX.o i hin);have dI:=Aa (fun (w5:World) (h5:Ex w1 w5) (c:Nat) (hc:c<q)=>(by
    have:=bR.o w5 (aF.o.trans h5) s (c:Int);rw[Bu hc]at this;exact this:Calls Tryz.prog 114 #[.agg #[.int .i64 p,.int .i64 m,.slice x3 ml.length y3],.int .i64 s,.int .i64 (c:Int)] w5 (fun r w'=>r= .returned (.int .i64 (Ar p m (lw ml) (AA q s) c:Nat))/\Ex w5 w')))
   have dF:=Aa (fun (w5:World) (h5:Ex w1 w5) (t:Nat) (ht:t<=256)=>(by
    have:=aW.o w5 (aF.o.trans h5) y t ac ht;rw[aM]at this;exact this:Calls Tryz.prog 79 #[.agg #[.int .i64 p,.int .i64 m,.slice x3 ml.length y3],.int .i64 y,.int .i64 t] w5 (fun r w'=>r= .returned (.int .i64 ((YQ+t:Nat)-1:Int))/\Ex w5 w')))
   have aY:=Aa (show(i+1)*Q=i*Q+Q from Nat.succ_mul i Q);obtain⟨IQ,bF⟩:∃z,i*Q=z:=⟨_,rfl⟩;rw[bF]at aA bW bV aY;have dH:=Aa aA.o;have HEX:=Aa aB.o;have aV:=Aa aB.o;have bU:=Aa hin;clear cI hy bC aU hs aT bE bD aA aB aM bF hin;go_wp2_with fail
   clear a0 a1 a2 b0 b1
   go_loopw [5,7] (fun v' c' wr=>∃c:Nat,1<=c/\c<=q/\c'= .int .i64 c/\Hia (wr.ownsRow w1.heap.size 3 1 v' (IQ+(c-1)) (vs (IQ+(c-1)) (iv F)))/\Hia (Ex w1 wr)) (fun _ c' _=>q-(intOf c').toNat)
   case atStart=>exact⟨1,ac,ac,rfl,dH,aV⟩
   case round=>
    obtain⟨c,hc1,hcq,rfl,aA,aB⟩:=hrel;obtain⟨a0,a1,a2,-,-⟩:=aG.o wr aB.o;obtain⟨va,vc,rfl⟩:=Ac aA.o;have aE:=Aa aA.o;have aN:=Aa aB.o;clear aA aB;by_cases hcn:c<q
    .obtain⟨t,ht⟩:=nA (Ar p m (lw ml) (AA q s) c);have htq:t<q:=by rw[<-ht];exact bT.o _ _
     have dM:=Aa (show F (IQ+(c-1))=((YQ+t:Nat):Int)-1 from by
      rw[bW.o (c-1) (by have:=aO.o;omega),show c-1+1=c from ac,ht])
     have aZ:=Aa (show IQ+(c-1)<=64/\IQ+(c-1)+1=IQ+(c+1-1) from⟨by have:=bV.o;have:=aO.o;omega,ac⟩);have k5:(c:Int)<(q:Int):=by omega
     have bS:=Aa (fun (w5:World) (h5:Ex w1 w5)=>dI.o w5 h5 c hcn);rw[ht]at bS;clear ht;go_upto_region 8 with (go_at_call 14;refine(aP.o _).mono ?_;rintro e w4⟨rfl,aD⟩;have aJ:=Aa aD;clear aD)
     have aK:=Aa (aN.o.trans aJ.o);have dD:=Aa aK.o.size;have aX:=Aa (Ai aE.o aJ.o);clear a0 a1 a2;have dG:=Aa (fun (w5:World) (h5:Ex w1 w5)=>dF.o w5 h5 t ac);refine Lw (w0:=w1) (fun k=>([⟨.val fun l=> .slice va (IQ+(c-1)) vc, [],19⟩,⟨.val fun l=> .agg #[.int .i64 (p:Int),.int .i64 (m:Int),.slice x3 ml.length y3], [],19⟩,⟨.val fun l=> .pointer (some ⟨B+1,0,none⟩), [],19⟩,⟨.val fun l=> .slice (some ⟨pb,po,none⟩) N pc, [],19⟩,⟨.val fun l=> .int .i64 (i:Int), [],19⟩,⟨.val fun l=> .pointer (some ⟨pb,po+i,none⟩), [],19⟩,⟨.val fun l=> .int .i64 (y:Int), [],19⟩,⟨.val fun l=> .agg #[.int .i64 (p:Int),.int .i64 (m:Int),.slice x3 ml.length y3], [],19⟩,⟨.val fun l=> .pointer (some ⟨B+1,1,none⟩), [],19⟩,⟨.val fun l=> .slice (some ⟨sb,so,none⟩) N sc, [],19⟩,⟨.val fun l=> .int .i64 (i:Int), [],19⟩,⟨.val fun l=> .pointer (some ⟨sb,so+i,none⟩), [],19⟩,⟨.val fun l=> .int .i64 s, [],19⟩,⟨.val fun l=> .int .i64 (c:Int), [],19⟩,⟨.val fun l=> .int .i64 (t:Int), [],19⟩,⟨.val fun l=> .int .i64 (((YQ+t:Nat):Int)-1), [],19⟩,⟨.new 3 1 (1) fun l=> [.int .i64 (((YQ+t:Nat):Int)-1)], [],19⟩,⟨.app none 3 1 (IQ+(c-1)+1) fun l=>vs (IQ+(c-1)) (iv F) ++ [.int .i64 (((YQ+t:Nat):Int)-1)], [],19⟩,⟨.val fun l=>l.getD 0 undef, [17],19⟩]:List Fj).getD k ⟨.val fun _=>undef, [],19⟩) 19 17 w1.heap.size ((.slice va (IQ+(c-1)) vc)) 3 1 (IQ+(c-1)) (vs (IQ+(c-1)) (iv F)) ah ah ae aK.o aX.o ?_ ?_
     .simp only[AC];refine⟨?_,?_,?_,?_,?_,?_,?_,?_,?_,?_,?_,?_,?_,?_,?_,?_,?_,?_,?_,trivial⟩
      .refine Di.val rfl ae ae rfl fun L V a w' H=>?_;refine⟨fun d hd=>cd,fun Kc hK=>?_⟩;have hL:L 18=false:=Av fun h=>by
        have cK:=H.hcl 18 _ h rfl ⟨17,.data⟩ ag rfl;have h0:=H.hcl 17 _ cK rfl ⟨0,.data⟩ ag rfl;exact absurd (H.hi.symm.trans h0) ae
       have e5:a.tmps[5]?=some (.slice va (IQ+(c-1)) vc):=H.hold 5 18 ah hL;clear H;go_simp;exact hK _ (Ex.refl w')
      .exact zal
      .exact zan
      .refine Di.val rfl ae ae rfl fun L V a w' H=>?_;refine⟨fun d hd=>cd,fun Kc hK=>?_⟩;have d2:L 2=true:=H.hd ⟨2,.data⟩ ag rfl;have cY:=H.hin 2 23 _ d2 rfl rfl;have s2:V 2= .pointer (some ⟨B+1,0,none⟩):=H.hj.says 2 d2 (Av fun h=>absurd (H.hj.lt _ h) (Nat.lt_irrefl _));rw[s2]at cY;exact zbD
      .exact zao
      .refine Di.val rfl ae ae rfl fun L V a w' H=>?_;refine⟨fun d hd=>cd,fun Kc hK=>?_⟩;have d3:L 3=true:=H.hd ⟨3,.data⟩ ag rfl;have cX:=H.hin 3 24 _ d3 rfl rfl;have s3:V 3= .slice (some ⟨pb,po,none⟩) N pc:=H.hj.says 3 d3 (Av fun h=>absurd (H.hj.lt _ h) (Nat.lt_irrefl _));rw[s3]at cX;have d4:L 4=true:=H.hd ⟨4,.data⟩ ag rfl;have cW:=H.hin 4 25 _ d4 rfl rfl;have s4:V 4= .int .i64 (i:Int):=H.hj.says 4 d4 (Av fun h=>absurd (H.hj.lt _ h) (Nat.lt_irrefl _));rw[s4]at cW;clear H;go_simp;exact hK _ (Ex.refl w')
      .refine Di.val rfl ae ae rfl fun L V a w' H=>?_;refine⟨fun d hd=>cd,fun Kc hK=>?_⟩;have d5:L 5=true:=H.hd ⟨5,.data⟩ ag rfl;have cV:=H.hin 5 26 _ d5 rfl rfl;have s5:V 5= .pointer (some ⟨pb,po+i,none⟩):=H.hj.says 5 d5 (Av fun h=>absurd (H.hj.lt _ h) (Nat.lt_irrefl _));rw[s5]at cV;have cp:=H.hj.ex.cell dP.o;clear H;go_simp;exact hK _ (Ex.refl w')
      .exact zal
      .exact zan
      .refine Di.val rfl ae ae rfl fun L V a w' H=>?_;refine⟨fun d hd=>cd,fun Kc hK=>?_⟩;have d8:L 8=true:=H.hd ⟨8,.data⟩ ag rfl;have cS:=H.hin 8 29 _ d8 rfl rfl;have s8:V 8= .pointer (some ⟨B+1,1,none⟩):=H.hj.says 8 d8 (Av fun h=>absurd (H.hj.lt _ h) (Nat.lt_irrefl _));rw[s8]at cS;exact zbD
      .exact zao
      .refine Di.val rfl ae ae rfl fun L V a w' H=>?_;refine⟨fun d hd=>cd,fun Kc hK=>?_⟩;have d9:L 9=true:=H.hd ⟨9,.data⟩ ag rfl;have cR:=H.hin 9 30 _ d9 rfl rfl;have s9:V 9= .slice (some ⟨sb,so,none⟩) N sc:=H.hj.says 9 d9 (Av fun h=>absurd (H.hj.lt _ h) (Nat.lt_irrefl _));rw[s9]at cR;have bM:L 10=true:=H.hd ⟨10,.data⟩ ag rfl;have Y8:=H.hin 10 31 _ bM rfl rfl;have cD:V 10= .int .i64 (i:Int):=H.hj.says 10 bM (Av fun h=>absurd (H.hj.lt _ h) (Nat.lt_irrefl _));rw[cD]at Y8;clear H;go_simp;exact hK _ (Ex.refl w')
      .refine Di.val rfl ae ae rfl fun L V a w' H=>?_;refine⟨fun d hd=>cd,fun Kc hK=>?_⟩;have bL:L 11=true:=H.hd ⟨11,.data⟩ ag rfl;have cQ:=H.hin 11 32 _ bL rfl rfl;have cC:V 11= .pointer (some ⟨sb,so+i,none⟩):=H.hj.says 11 bL (Av fun h=>absurd (H.hj.lt _ h) (Nat.lt_irrefl _));rw[cC]at cQ;have cs:=H.hj.ex.cell dO.o;clear H;go_simp;exact hK _ (Ex.refl w')
      .refine Di.val rfl ae ae rfl fun L V a w' H=>?_;refine⟨fun d hd=>cd,fun Kc hK=>?_⟩;have e7:a.tmps[7]?=some (.int .i64 (c:Int)):=H.hout 7 ah;clear H;go_simp;exact hK _ (Ex.refl w')
      .refine Di.val rfl ae ae rfl fun L V a w' H=>?_;refine⟨fun d hd=>cd,fun Kc hK=>?_⟩;have d7:L 7=true:=H.hd ⟨7,.data⟩ ag rfl;have cT:=H.hin 7 28 _ d7 rfl rfl;have s7:V 7= .agg #[.int .i64 (p:Int),.int .i64 (m:Int),.slice x3 ml.length y3]:=H.hj.says 7 d7 (Av fun h=>absurd (H.hj.lt _ h) (Nat.lt_irrefl _));rw[s7]at cT;have bK:L 12=true:=H.hd ⟨12,.data⟩ ag rfl;have cP:=H.hin 12 33 _ bK rfl rfl;have cB:V 12= .int .i64 s:=H.hj.says 12 bK (Av fun h=>absurd (H.hj.lt _ h) (Nat.lt_irrefl _));rw[cB]at cP;have bJ:L 13=true:=H.hd ⟨13,.data⟩ ag rfl;have cO:=H.hin 13 34 _ bJ rfl rfl;have cA:V 13= .int .i64 (c:Int):=H.hj.says 13 bJ (Av fun h=>absurd (H.hj.lt _ h) (Nat.lt_irrefl _));rw[cA]at cO;have aS:=H.hj.ex;clear H;go_simp;refine(bS.o w' aS).mono ?_;rintro r w2⟨rfl,hx⟩;exact hK _ hx
      .refine Di.val rfl ae ae rfl fun L V a w' H=>?_;refine⟨fun d hd=>cd,fun Kc hK=>?_⟩;have d1:L 1=true:=H.hd ⟨1,.data⟩ ag rfl;have cZ:=H.hin 1 22 _ d1 rfl rfl;have s1:V 1= .agg #[.int .i64 (p:Int),.int .i64 (m:Int),.slice x3 ml.length y3]:=H.hj.says 1 d1 (Av fun h=>absurd (H.hj.lt _ h) (Nat.lt_irrefl _));rw[s1]at cZ;have d6:L 6=true:=H.hd ⟨6,.data⟩ ag rfl;have cU:=H.hin 6 27 _ d6 rfl rfl;have s6:V 6= .int .i64 (y:Int):=H.hj.says 6 d6 (Av fun h=>absurd (H.hj.lt _ h) (Nat.lt_irrefl _));rw[s6]at cU;have bI:L 14=true:=H.hd ⟨14,.data⟩ ag rfl;have cN:=H.hin 14 35 _ bI rfl rfl;have bZ:V 14= .int .i64 (t:Int):=H.hj.says 14 bI (Av fun h=>absurd (H.hj.lt _ h) (Nat.lt_irrefl _));rw[bZ]at cN;have aS:=H.hj.ex;clear H;go_simp;refine(dG.o w' aS).mono ?_;rintro r w2⟨rfl,hx⟩;exact hK _ hx
      .refine Di.new rfl ae ae fun L V a w' H=>?_;refine⟨fun d hd=>cd,fun Kc hK=>?_⟩;have bH:L 15=true:=H.hd ⟨15,.data⟩ ag rfl;have cM:=H.hin 15 36 _ bH rfl rfl;have bY:V 15= .int .i64 (((YQ+t:Nat):Int)-1):=H.hj.says 15 bH (Av fun h=>absurd (H.hj.lt _ h) (Nat.lt_irrefl _));rw[bY]at cM;clear H;go_simp;exact hK _ _ (AI w' _) (DQ w' _ _)
      .refine Di.out rfl ae rfl (Nat.le_refl _) fun L V a w' H=>?_;refine⟨fun d hd=>cd,fun Kc cF aH hK=>?_⟩;have d0:L 0=true:=H.hd ⟨0,.data⟩ ag rfl;have Y9:=H.hin 0 21 _ d0 rfl rfl;have s0:V 0= .slice va (IQ+(c-1)) vc:=H.hj.says 0 d0 (Av fun h=>absurd (H.hj.lt _ h) (Nat.lt_irrefl _));rw[s0]at Y9;have bG:L 16=true:=H.hd ⟨16,.data⟩ ag rfl;have cL:=H.hin 16 37 _ bG rfl rfl;have E1:=Bc Y9;have E2:=Bc cL;have own:=aH;have cJ:Sl w' (V 16) (1) 1 ([.int .i64 (((YQ+t:Nat):Int)-1)]):=Sl.own (H.hj.says 16 bG (Av fun h=>absurd (H.hj.lt _ h) (Nat.lt_irrefl _)));refine BB _ _ 22 rfl w1.heap.size 3 (.int .i64 0) 1 8 Tryz.underlying22 Aw rfl ae ((.slice va (IQ+(c-1)) vc)) (IQ+(c-1)) (vs (IQ+(c-1)) (iv F)) E1 own (V 16) (1) ([.int .i64 (((YQ+t:Nat):Int)-1)]) E2 cJ ak (by have:=aZ.o.1;unfold maxLen;omega) (by have:=aZ.o.1;omega) (Nat.le_trans dD.o cF) ?_;intro v' w2 aA hg hat
       exact hK _ _ aA hg hat
      .refine Di.val rfl ae ae rfl fun L V a w' H=>?_;have dB:L 17=true:=H.hd ⟨17,.data⟩ ag rfl;refine⟨fun d hd=>(by simp at hd;subst hd;exact dB),fun Kc hK=>?_⟩;have dA:L 17=true:=H.hd ⟨17,.data⟩ ag rfl;have e38:=H.hin 17 38 _ dA rfl rfl;clear H;go_simp;exact hK _ (Ex.refl w')
     .intro L V w' aC hj;have bB:w'.ownsRow w1.heap.size 3 1 (V 17) (IQ+(c-1)+1) (vs (IQ+(c-1)) (iv F) ++ [.int .i64 (((YQ+t:Nat):Int)-1)]):=hj.says 17 (aC 17 ae) (Av fun h=>absurd (hj.lt _ h) (Nat.lt_irrefl _));have bA:V 18=V 17:=hj.says 18 (aC 18 ae) (Av fun h=>absurd (hj.lt _ h) (Nat.lt_irrefl _));have bO:=Aa (show w'.ownsRow w1.heap.size 3 1 (V 18) (IQ+(c+1-1)) (vs (IQ+(c+1-1)) (iv F)) from by
       rw[bA,<-aZ.o.2,Lz];have e:iv F (IQ+(c-1))=Value.int .i64 (((YQ+t:Nat):Int)-1):=by show Value.int .i64 (F (IQ+(c-1)))=_;rw[dM.o]
       rw[e];exact bB)
      have bN:=Aa hj.ex;clear hj aC bB bA;simp only[BU,Act.put,List.setIfInBounds_toArray,List.set_cons_zero,List.set_cons_succ];go_wp2_with fail
      go_roundw
      case rel=>first|exact⟨c+1,ac,ac,by go_num,bO,bN⟩|((repeat apply Exists.intro);exact⟨⟨c+1,ac,ac,by go_num,bO,bN⟩,rfl⟩)
      case measure=>simp[intOf];omega
    .obtain rfl:c=q:=by omega
     rw[show IQ+(c-1)=IQ+Q from by have:=aO.o;omega,<-aY.o]at aE;rw[show IQ+(c-1)=(i+1)*Q from by have:=aO.o;have:=aY.o;omega];go_wp2_with (go_at_call 14;refine(aP.o _).mono ?_;rintro e w4⟨rfl,aD⟩;have aJ:=Aa (aN.o.trans aD);have bP:=Aa (Ai aE.o aD);clear aD)
     go_roundw
     case rel=>first|exact⟨i+1,ac,by go_num,bP,aJ⟩|((repeat apply Exists.intro);exact⟨⟨i+1,by have:=bU.o;omega,by go_num,bP,aJ⟩,rfl⟩)
     case measure=>have:=bU.o;simp[intOf];omega
  .obtain rfl:i=N:=by omega
   rw[dN.o]at aA;have aE:=Aa aA.o;have aN:=Aa (aF.o.trans aB.o);obtain⟨va,vc,rfl⟩:=Ac aE.o;clear aA aB;go_wp2_with fail
   go_ret;exact⟨_,rfl,De aE.o aF.o.size,aN.o⟩
end
end
end Go.Proofs.YtehieobniamagaaGreat
