/- Walk of automorphism.Check (slices.IndexFunc and ContainsFunc by the templates of gen_finde.py). -/
import Derived.Test.YtehieobniamagaaGreatZa36
namespace Go.Proofs.YtehieobniamagaaGreat
set_option linter.all false
set_option maxRecDepth 100000
set_option maxHeartbeats 8000000
open Go.RowKit
theorem Ks(w:World)(p0 p1:Value)(v:Value)(n:Nat)(us:List Value)(hv:Sl w v n 1 us)(pr:Nat->Bool)
  (hp:∀(w1:World) (i:Nat) (u:Value),Ex w w1->us[i]?=some u->Calls Tryz.prog 72 #[u,p0,p1] w1 fun e w'=>e= .returned (.bool (pr i))/\Ex w1 w'):
  Calls Tryz.prog 129 #[v,.func (.func 72) #[] #[p0,p1]] w fun r w'=>r= .returned (.int .i64 (CD pr n))/\Ex w w':=by
 obtain⟨hl,a,cap,rfl,s1,s2,s3⟩:=hv;rw[Nat.mul_one]at hl;have S3:=Aa s3;have HP:=Aa hp;have HL:=Aa hl;unfold maxLen at s2;clear s3 hp hl;go_enter Tryz.func129,Tryz.ntmps129
 go_wp2_with fail
 go_loopg [5,8] n (fun gg _ i' wr=>∃i:Nat,i<=n/\n-i<=gg/\i'= .int .i64 i/\Hia (Ex w wr)/\Hia (∀j,j<i->pr j=false))
 case atStart=>exact⟨0,ac,ac,rfl,Aa (Ex.refl _),Aa (fun j hj=>ac)⟩
 case round=>
  obtain⟨i,hi,hg,rfl,aB,aA⟩:=hrel;by_cases hlt:i<n
  .obtain⟨u,hu⟩:∃u,us[i]?=some u:=⟨_,List.getElem?_eq_getElem az⟩;obtain⟨bb,o,rfl,hc⟩:=S3.o ac;have c1:=aB.o.cell (hc i u hu);have HC:=Aa (HP.o wr i u aB.o hu);have hlt':(i:Int)<(n:Int):=by omega
   clear hc hu
   cases hb:pr i with
   | true=>
    rw[hb]at HC;have HF:=Aa (Cg hlt hb aA.o);clear hb;go_wp2_with (go_at_call 72;refine HC.o.mono ?_;rintro e w'⟨rfl,hx⟩;have HX:=Aa (aB.o.trans hx);clear hx)
    exact zcV
   | false=>
    rw[hb]at HC;have HA:=Aa (show ∀j,j<i+1->pr j=false from fun j hj=>by
     by_cases e:j=i
     .subst e;exact hb
     .exact aA.o j ac)
    clear hb;go_wp2_with (go_at_call 72;refine HC.o.mono ?_;rintro e w'⟨rfl,hx⟩;have HX:=Aa (aB.o.trans hx);clear hx)
    exact zbJ
  .exact zaC
theorem H4(w:World)(p0 p1:Value)(v:Value)(n:Nat)(us:List Value)(hv:Sl w v n 1 us)(pr:Nat->Bool)
  (hp:∀(w1:World) (i:Nat) (u:Value),Ex w w1->us[i]?=some u->Calls Tryz.prog 72 #[u,p0,p1] w1 fun e w'=>e= .returned (.bool (pr i))/\Ex w1 w'):
  Calls Tryz.prog 71 #[v,.func (.func 72) #[] #[p0,p1]] w fun r w'=>r= .returned (.bool ((List.range n).any pr))/\Ex w w':=by
 have HC:=Aa (Ks w p0 p1 v n us hv pr hp);have HB:=Aa (DL pr n);obtain⟨z,hz⟩:=nA (CD pr n);rw[hz]at HC HB;clear hz hp hv;go_enter Tryz.func71,Tryz.ntmps71
 go_wp2_with (go_at_call 129;refine HC.o.mono ?_;rintro e w'⟨rfl,hx⟩;have HX:=Aa hx;clear hx)
 go_ret;exact⟨Ao HB.o.symm,HX.o⟩
section
variable {b p m x0 N:Nat} {ml:List Int} {rows:List (List Int)}
theorem Wl(w:World)(hg:AP w b p m ml x0)(aD:1<=N)(hN:N<=64)(hd:N*(p^m-1)<=64)(ho:Ce p m ml N rows 0)(m1 v1:Value)(hc:(⟨p,m,ml,N,rows⟩:AU).at w m1 v1)(P:List Int)(pv:Value)(hp:Aj w pv P)(aA:P.length=N*(p^m-1))(aB:∀x∈P,0<=x/\x<(P.length:Int))
  (GB CB:Nat) (g0:w.cell? ⟨GB,0,none⟩=some (.pointer (some ⟨b,0,none⟩))) (c0:w.cell? ⟨CB,0,none⟩=some (.int .i64 p)) (c1:w.cell? ⟨CB,1,none⟩=some (.int .i64 m)) (c2:w.cell? ⟨CB,2,none⟩=some m1) (c3:w.cell? ⟨CB,3,none⟩=some (.int .i64 N)) (c4:w.cell? ⟨CB,4,none⟩=some v1):
  Calls Tryz.prog 72 #[pv,.pointer (some ⟨GB,0,none⟩),.pointer (some ⟨CB,0,none⟩)] w fun r w'=>r= .returned (.bool (!E7 p m ml N rows P))/\Ex w w':=by
 have HM:=Aa (Pi w hg aD hN hd ho m1 v1 hc P pv hp aA aB);unfold AU.arg at HM;dsimp only at HM;obtain⟨x1,y1,rfl,-,-,-⟩:=hc.g.open;obtain⟨x3,y3,rfl,-,-,-⟩:=hc.m.open;obtain⟨x5,y5,rfl,-,-,-⟩:=hp.open;obtain⟨MB,aC⟩:∃x,E7 p m ml N rows P=x:=⟨_,rfl⟩;rw[aC]at HM ⊢;clear aC hg hc hp ho aA aB hd;go_enter Tryz.func72,Tryz.ntmps72
 go_wp2_with (go_at_call 73;refine HM.o.mono ?_;rintro e w'⟨rfl,hx⟩;have HX:=Aa hx;clear hx)
 go_ret;exact⟨rfl,HX.o⟩
end
open Classical in
noncomputable def Th (c:AU) (L:List Lv):Bool:=decide (∀l∈L,∀r∈l.reps,E7 c.p.toNat c.m.toNat c.ml c.n.toNat c.rows r=true)
theorem NA{c:AU}{L:List Lv}:Th c L=true↔∀l∈L,∀r∈l.reps,E7 c.p.toNat c.m.toNat c.ml c.n.toNat c.rows r=true:=by
 unfold Th;simp only[decide_eq_true_eq]
def UG(c:AU)(dg:Int)(L:List Lv)(xs:List FS):Prop:=A9 dg L=0/\dg=JS c/\Th c L=true/\JL c (c.p.toNat^c.m.toNat) L (AA c) xs=true
def UD(c:AU)(dg:Int)(L:List Lv)(xs:List FS)(r:Ending)(w':World):Prop:=∃e0:Int,Ce c.p c.m c.ml c.n c.rows e0/\
 ((Ii c e0≠0/\r= .returned (.tuple #[.slice none 0 0,.int .i64 (Ii c e0)]))∨
 (Ii c e0=0/\¬UG c dg L xs/\r= .returned (.tuple #[.slice none 0 0,.int .i64 13]))∨
 (Ii c e0=0/\UG c dg L xs/\∃v,r= .returned (.tuple #[v,.int .i64 0])/\GU w' v (G7 L)))
theorem zbo{P:Prop}(h:P:=by
 go_wp2_with fail
 exact bodyPost_ret (v:= .tuple #[.slice none 0 0,.int .i64 13]) (by simp[results,Tryz.results29,go_sem]) rfl ⟨aQ.o _ _ (HR.o _),aH.o⟩):P:=h
theorem zbr{P:Prop}(h:P:=by
 exact bodyPost_ret (v:= .tuple #[.slice none 0 0,.int .i64 13]) (by simp[results,Tryz.results29,go_sem]) rfl ⟨aQ.o _ _ (HR.o _),aP.o⟩):P:=h
theorem Oy(w:World)(c:AU)(m1 v1:Value)(hc:c.at w m1 v1)(dg:Int)(L:List Lv)(lv:Value)(hL:D6 w lv L)(cQ:(A6 L).length<=1000)(xs:List FS)(rv:Value)(hx:J7 w rv xs):
  Calls Tryz.prog 29 #[c.arg m1 v1,.agg #[.int .i64 dg,lv,rv]] w fun r w'=>UD c dg L xs r w'/\Ex w w':=by
 obtain⟨c0,c1,c2,c3,c4⟩:=Dp w c m1 v1;have cI:=AE w (c.obj m1 v1);have cL:(w.alloc (c.obj m1 v1)).heap.size=w.heap.size+1:=ag;have aA:=AE (w.alloc (c.obj m1 v1)) (.cells #[.int .i64 dg,lv,rv] 53);have s0:((w.alloc (c.obj m1 v1)).alloc (.cells #[.int .i64 dg,lv,rv] 53)).cell? ⟨(w.alloc (c.obj m1 v1)).heap.size,0,none⟩=some (.int .i64 dg):=ag;have s1:((w.alloc (c.obj m1 v1)).alloc (.cells #[.int .i64 dg,lv,rv] 53)).cell? ⟨(w.alloc (c.obj m1 v1)).heap.size,1,none⟩=some lv:=ag;have s2:((w.alloc (c.obj m1 v1)).alloc (.cells #[.int .i64 dg,lv,rv] 53)).cell? ⟨(w.alloc (c.obj m1 v1)).heap.size,2,none⟩=some rv:=ag;rw[cL]at s0 s1 s2;have aN:=Aa (cI.trans aA);have bG:=Aa (hc.ex aN.o);have HL:=Aa (hL.ex aN.o);have HX:=Aa (hx.ex aN.o);have aR:=Aa (Jp _ c m1 v1 bG.o);obtain⟨x1,y1,cK,-,z1,-⟩:=hc.g.open;obtain⟨x3,y3,cJ,-,z3,-⟩:=hc.m.open;obtain⟨la,lc,dJ,-,zl,-⟩:=hL.open3;obtain⟨ra,rc,dG,-,zr,-⟩:=hx.open;unfold maxLen at z1 z3 zl zr;obtain⟨B,hB⟩:=nA w.heap.size;rw[hB]at c0 c1 c2 c3 c4 s0 s1 s2;replace c0:=aA.cell c0;replace c1:=aA.cell c1;replace c2:=aA.cell c2;replace c3:=aA.cell c3;replace c4:=aA.cell c4;obtain⟨C,hC⟩:∃C:AU,C=c:=⟨_,rfl⟩;have aO:=Aa hC;have aQ:=Aa (show ∀r w',UD C dg L xs r w'->UD c dg L xs r w' from fun r w' h=>by rw[<-hC];exact h);obtain⟨cp,cm,aB,cn,aC⟩:=c;unfold AU.arg at aR ⊢;unfold AU.obj at aN bG HL HX aR c0 c1 c2 c3 c4 s0 s1 s2;dsimp only at aN bG HL HX aR c0 c1 c2 c3 c4 s0 s1 s2 cK cJ ⊢;rw[<-hC]at aR;subst cK cJ dJ dG;clear hc cI aA hL hx cL hC;have dA:=Aa cQ;clear cQ;go_enter Tryz.func29,Tryz.ntmps29
 go_upto_region 1 with fail
 have aW:(w.alloc (.cells #[.int .i64 cp,.int .i64 cm,.slice x3 aB.length y3,.int .i64 cn,.slice x1 aC.length y1] 39)).heap.size=B+1:=by simp[hB]
 try simp only[aW]
 try simp only[hB]
 clear hB aW;generalize (w.alloc (.cells #[.int .i64 cp,.int .i64 cm,.slice x3 aB.length y3,.int .i64 cn,.slice x1 aC.length y1] 39)).alloc (.cells #[.int .i64 dg,.slice la L.length lc,.slice ra xs.length rc] 53)=w1 at *;go_wp2_with fail
 refine aR.o.mono ?_;rintro e w2⟨⟨e0,cR,ho⟩,aA⟩;have bB:=Aa aA;have bM:=Aa cR;replace c0:=aA.cell c0;replace c1:=aA.cell c1;replace c2:=aA.cell c2;replace c3:=aA.cell c3;replace c4:=aA.cell c4;replace s0:=aA.cell s0;replace s1:=aA.cell s1;replace s2:=aA.cell s2;clear aA cR aR;obtain⟨OE,aM⟩:∃x,Ii C e0=x:=⟨_,rfl⟩;rw[aM]at ho;have bL:=Aa aM;rcases ho with⟨h0,ptr,d,rfl⟩|⟨h0,pn,mn,N,b,x0,hp,hm,hn,hN1,hN64,hD,rfl,hg,hx1,aA⟩
 .have hb:(OE !=0)=true:=by simpa using h0
  have H0:=Aa h0;have aP:=Aa (fun o=>aN.o.trans (bB.o.trans (AE w2 o)));clear h0 aM;go_wp2_with fail
  exact bodyPost_ret (v:= .tuple #[.slice none 0 0,.int .i64 OE]) (by simp[results,Tryz.results29,go_sem]) rfl ⟨aQ.o _ _ ⟨e0,bM.o,.inl ⟨by rw[bL.o];exact H0.o,by rw[bL.o]⟩⟩,aP.o _⟩
 .subst h0;have dX:=Aa (show e0=0 from by
   unfold Ii at aM;split at aM
   .exact aM
   .omega)
  have dM:cn=(N:Int):=by have:=aO.o;rw[this]at hn;exact hn
  have dL:cp=(pn:Int):=by have:=aO.o;rw[this]at hp;exact hp
  have dN:cm=(mn:Int):=by have:=aO.o;rw[this]at hm;exact hm
  subst dM dL dN;obtain⟨cV,dC,dV,cX⟩:=Eq (show Ce pn mn aB N aC 0 from by have h1:=bM.o;rw[aO.o,dX.o]at h1;exact h1) (show(JS C:Int)=((N*(pn^mn-1):Nat):Int) from by unfold JS;rw[hp,hm,hn];rfl) (show AA C=Ds N (pn^mn) from by unfold AA;rw[hp,hm,hn];rfl) (show(∀l∈L,∀r∈l.reps,E7 pn mn aB N aC r=true)↔Th C L=true from by rw[NA,aO.o];exact Iff.rfl);obtain⟨dB,aK,cF,HG,HN,bF,bY,dW,aD⟩:=Ha0 (show JL C (C.p.toNat^C.m.toNat) L (AA C) xs=JL ⟨pn,mn,aB,N,aC⟩ (pn^mn) L (Ds N (pn^mn)) xs from by rw[dV.o,aO.o];first|done|rfl) (show ¬UG C dg L xs->∀(w':World),UD C dg L xs (.returned (.tuple #[.slice none 0 0,.int .i64 13])) w' from fun h w'=>⟨e0,bM.o,.inr (.inl ⟨bL.o,h,rfl⟩)⟩) (show UG C dg L xs->∀(w':World) (v:Value),GU w' v (G7 L)->UD C dg L xs (.returned (.tuple #[v,.int .i64 0])) w' from fun h w' v hv=>⟨e0,bM.o,.inr (.inr ⟨bL.o,h,v,rfl,hv⟩)⟩) (show AP w2 b pn mn aB x0 from by have h:=hg;rw[aO.o]at h;exact h) (show 1<=N/\N<=64/\N*(pn^mn-1)<=64 from⟨hN1,hN64,hD⟩) (bG.o.ex bB.o) (HL.o.ex bB.o) (HX.o.ex bB.o) (AE w2 (.cells #[.pointer (some ⟨b,0,none⟩)] 97));have g0:(w2.alloc (.cells #[.pointer (some ⟨b,0,none⟩)] 97)).cell? ⟨w2.heap.size,0,none⟩=some (.pointer (some ⟨b,0,none⟩)):=by simp
  obtain⟨GB,bU⟩:∃x,w2.heap.size=x:=⟨_,rfl⟩;rw[bU]at g0;obtain⟨D,bV⟩:=nA (N*(pn^mn-1));have cA:=Aa bV;rw[bV];clear hp hm hn hN1 hN64 hD hg hx1 aA aM bV bG HL HX;go_upto_region 2 with fail
  try simp only[bU]
  clear bU;generalize w2.alloc (.cells #[.pointer (some ⟨b,0,none⟩)] 97)=w3 at *;replace c0:=aD.o.cell c0;replace c1:=aD.o.cell c1;replace c2:=aD.o.cell c2;replace c3:=aD.o.cell c3;replace c4:=aD.o.cell c4;replace s0:=aD.o.cell s0;replace s1:=aD.o.cell s1;replace s2:=aD.o.cell s2;have aJ:=Aa (aN.o.trans (bB.o.trans aD.o));have cZ:=Aa (bY.o.ex aD.o);have cB:=Aa (fun (w5:World) (h5:Ex w3 w5)=>(⟨h5.cell c0,h5.cell c1,h5.cell c2,h5.cell c3,h5.cell c4,h5.cell s0,h5.cell s1,h5.cell s2,h5.cell g0⟩:w5.cell? ⟨B,0,none⟩=some (.int .i64 pn)/\w5.cell? ⟨B,1,none⟩=some (.int .i64 mn)/\w5.cell? ⟨B,2,none⟩=some (.slice x3 aB.length y3)/\w5.cell? ⟨B,3,none⟩=some (.int .i64 N)/\w5.cell? ⟨B,4,none⟩=some (.slice x1 aC.length y1)/\w5.cell? ⟨B+1,0,none⟩=some (.int .i64 dg)/\w5.cell? ⟨B+1,1,none⟩=some (.slice la L.length lc)/\w5.cell? ⟨B+1,2,none⟩=some (.slice ra xs.length rc)/\w5.cell? ⟨GB,0,none⟩=some (.pointer (some ⟨b,0,none⟩))));have bN:=Aa (Fx w3 dg L _ cZ.o dA.o);obtain⟨KK,bT⟩:∃x,A9 dg L=x:=⟨_,rfl⟩;rw[bT]at bN;have bD:=Aa bT;clear bT;by_cases hk:KK=0
  rotate_left
  .have hb:(KK !=0)=true:=by simpa using hk
   have HR:=Aa (aK.o fun h=>hk (bD.o.symm.trans h.1));clear hk;go_wp2_with fail
   refine bN.o.mono ?_;rintro e w5⟨rfl,aG⟩;have aH:=Aa (aJ.o.trans aG);clear aG c0 c1 c2 c3 c4 s0 s1 s2 g0;exact zbo
  .subst hk;by_cases hdg:dg=(D:Int)
   rotate_left
   .have hb:(dg !=(D:Int))=true:=by simpa using hdg
    have HR:=Aa (aK.o fun h=>hdg (h.2.1.trans (by rw[dC.o,cA.o])));clear hdg;go_wp2_with fail
    refine bN.o.mono ?_;rintro e w5⟨rfl,aG⟩;have aH:=Aa (aJ.o.trans aG);replace s0:=aG.cell s0;clear aG c0 c1 c2 c3 c4 s1 s2 g0;exact zbo
   .subst hdg;have dS:=Aa (show ∀l∈L,∀r∈l.reps,r.length=N*(pn^mn-1)/\∀x∈r,0<=x/\x<(r.length:Int) from fun l hl r hr=>by
     have h1:A9 (D:Int) L=0:=bD.o;unfold A9 at h1;split at h1
     .cases h1
     .split at h1
      .rename_i h2 h3;obtain⟨N',h4,-,-,S,h5,h6⟩:=IT h3.1;have h7:r∈A6 L:=by unfold A6;exact List.mem_flatMap.2 ⟨l,hl,hr⟩
       rw[h5]at h7;obtain⟨f,hf,rfl⟩:=List.mem_map.1 h7;have h8:(li N' f).length=N':=CM _ _;refine⟨by rw[h8,cA.o];omega,fun x hx=>?_⟩;rw[h8];obtain⟨i,hi⟩:=List.mem_iff_getElem?.1 hx;have h9:i<N':=by have:=(List.getElem?_eq_some_iff.1 hi).1;rw[h8]at this;exact this
       rw[C9 h9]at hi;injection hi with hi;have:=(h6 f hf).lt i h9;omega
      .cases h1)
    go_upto_region 6 with (go_at_call 70;refine bN.o.mono ?_;rintro e w5⟨rfl,aG⟩;have aH:=Aa aG;replace s0:=aG.cell s0;clear aG)
    clear c0 c1 c2 c3 c4 s0 s1 s2 g0;obtain⟨LL,bH⟩:∃n,L.length=n:=⟨_,rfl⟩;have bC:=Aa bH;obtain⟨la2,lc2,cM,dE,dD,cG⟩:=(cZ.o.ex aH.o).open3;have dK:la=la2:=by injection cM
    subst dK;have Z3:=Aa (show 0<LL->_ from fun h=>cG (by rw[bH];exact h));have dT:=Aa (show LL<=1048576 from by
     have h1:A9 (D:Int) L=0:=bD.o;obtain⟨n,e1,h2,h3,S,h4,h5,h6⟩:=QV h1;rw[<-bH,h6,List.length_map];unfold Nq;exact Nat.le_trans (List.length_filter_le _ _) (by rw[List.length_range];omega))
    obtain⟨c0,c1,c2,c3,c4,s0,s1,s2,g0⟩:=cB.o w5 aH.o;have H0:=Aa (show ∀l∈L.take 0,∀r∈l.reps,E7 pn mn aB N aC r=true from fun l hl=>by simp at hl);clear cM dE dD cG bH;go_upto_region 7 with fail
    simp only[bC.o];clear c0 c1 c2 c3 c4 s0 s1 s2 g0
    go_loopw [35] (fun k' wr=>∃k:Nat,k<=LL/\k'= .int .i64 k/\Hia (Ex w5 wr)/\Hia (∀l∈L.take k,∀r∈l.reps,E7 pn mn aB N aC r=true)) (fun k' _=>LL-(intOf k').toNat)
    case atStart=>exact⟨0,ac,rfl,Aa (Ex.refl _),H0⟩
    case round=>
     clear H0;obtain⟨k,hk,rfl,aF,aI⟩:=hrel;by_cases hkl:k<LL
     .obtain⟨eb,eo,rfl,cS⟩:=Z3.o ac;obtain⟨l,hl⟩:∃l,L[k]?=some l:=⟨_,List.getElem?_eq_getElem (by rw[bC.o];exact hkl)⟩;obtain⟨ou,orr,d0,d1,d2,k4,k5⟩:=cS k l hl;obtain⟨oa,oc,rfl,-,-,-⟩:=k4.open;clear k4;replace d0:=aF.o.cell d0;replace d1:=aF.o.cell d1;replace d2:=aF.o.cell d2;obtain⟨cY,dU,bZ,dR⟩:=Eq (List.mem_of_getElem? hl) hl hkl (k5.ex aF.o);obtain⟨qa,qc,rfl,-,-,-⟩:=k5.open;have i1:(0:Int)<=(k:Int):=by omega
      have i2:(k:Int)<(LL:Int):=ac;have hk64:k<=1048576:=by have:=dT.o;omega
      have bI:=Aa aF.o;have cE:=Aa aI.o;clear cS hl hkl k5 aF aI;go_upto_region 9 with fail
      have bx:∀x:Nat,wr.heap.size=x->(wr.alloc (.cells #[.int .i64 l.pt,.slice oa l.orb.length oc,.slice qa l.reps.length qc] 90)).cell? ⟨x,2,none⟩=some (.slice qa l.reps.length qc):=fun x h=>by subst h;simp
      obtain⟨XB,bS⟩:∃x,wr.heap.size=x:=⟨_,rfl⟩;have x2':=bx XB bS;have bK:=Aa (AE wr (.cells #[.int .i64 l.pt,.slice oa l.orb.length oc,.slice qa l.reps.length qc] 90))
      try simp only[bS]
      clear bS d0 d1 d2 i1 i2 bx;generalize wr.alloc (.cells #[.int .i64 l.pt,.slice oa l.orb.length oc,.slice qa l.reps.length qc] 90)=w6 at *;have bA:=Aa (aH.o.trans (bI.o.trans bK.o));obtain⟨pr,cN⟩:∃pr:Nat->Bool,∀(j:Nat) (r:List Int),l.reps[j]?=some r->pr j=!E7 pn mn aB N aC r:=⟨fun j=>match l.reps[j]? with|some r=> !E7 pn mn aB N aC r|none=>false,fun j r h=>by simp[h]⟩;have bX:=Aa cN;obtain⟨vals,bP,cH⟩:=dR.o.ex bK.o;have cC:=Aa (H4 w6 (.pointer (some ⟨GB,0,none⟩)) (.pointer (some ⟨B,0,none⟩)) (.slice qa l.reps.length qc) l.reps.length vals bP pr (fun w7 i u h7 hu=>by
       have hil:i<l.reps.length:=by
        have h1:=(List.getElem?_eq_some_iff.1 hu).1;have h2:=bP.1;omega
       have bQ:l.reps[i]?=some (l.reps[i]'hil):=List.getElem?_eq_getElem _;rw[bX.o i _ bQ];obtain⟨c0,c1,c2,c3,c4,-,-,-,g0⟩:=cB.o w7 (bA.o.trans h7);obtain⟨dI,dH⟩:=dS.o l cY.o _ (List.mem_of_getElem? bQ);have aU:=aD.o.trans (bA.o.trans h7);exact Wl w7 (HG.o.ex aU) HN.o.1 HN.o.2.1 HN.o.2.2 cV.o _ _ (bF.o.ex aU) _ u ((cH i _ u bQ hu).ex h7) dI dH GB B g0 c0 c1 c2 c3 c4))
      obtain⟨AN,bW⟩:∃x,(List.range l.reps.length).any pr=x:=⟨_,rfl⟩;rw[bW]at cC;have bO:=Aa bW;clear cN bW bP cH;have aX:AN=true->¬(∀r∈l.reps,E7 pn mn aB N aC r=true):=fun h dO=>by
       rw[h]at bO;obtain⟨j,hj,hp⟩:=List.any_eq_true.1 bO.o;have cP:=List.mem_range.1 hj;rw[bX.o j _ (List.getElem?_eq_getElem cP),dO _ (List.getElem_mem cP)]at hp;cases hp
      have aL:AN=false->∀r∈l.reps,E7 pn mn aB N aC r=true:=fun h r hr=>by
       rw[h]at bO;obtain⟨j,hj,rfl⟩:=List.getElem_of_mem hr;have h1:=List.any_eq_false.1 bO.o j (List.mem_range.2 hj);rw[bX.o j _ (List.getElem?_eq_getElem hj)]at h1;simpa using h1
      have cD:=Aa aX;have bE:=Aa aL;clear aX aL
      cases AN with
      | true=>
       have HR:=Aa (aK.o fun h=>cD.o rfl (cX.o.2 h.2.2.1 l cY.o));go_wp2_with (go_at_call 71;refine cC.o.mono ?_;rintro e w8⟨rfl,aT⟩;have bJ:=Aa (bI.o.trans (bK.o.trans aT));clear aT)
       have aP:=Aa (aJ.o.trans (aH.o.trans bJ.o));exact zbr
      | false=>
       have cW:=Aa (show ∀l∈L.take (k+1),∀r∈l.reps,E7 pn mn aB N aC r=true from fun l' cO r hr=>by
        rw[List.take_add_one,dU.o]at cO;rcases List.mem_append.1 cO with h|h
        .exact cE.o l' h r hr
        .simp at h;subst h;exact bE.o rfl r hr)
       go_wp2_with (go_at_call 71;refine cC.o.mono ?_;rintro e w8⟨rfl,aT⟩;have bJ:=Aa (bI.o.trans (bK.o.trans aT));clear aT)
       go_roundw
       case rel=>first|exact⟨k+1,by have:=bZ.o;omega,by go_num,bJ,cW⟩|((repeat apply Exists.intro);exact⟨⟨k+1,by have:=bZ.o;omega,by go_num,bJ,cW⟩,rfl⟩)
       case measure=>have:=bZ.o;simp[intOf];omega
     .obtain rfl:LL=k:=by omega
      obtain⟨HM,bI,aZ,aE⟩:=Eq (cX.o.1 (by have h:=aI.o;rwa[List.take_of_length_le (by rw[bC.o];exact Nat.le_refl _)]at h)) aF.o (aH.o.trans aF.o) (aD.o.trans (aH.o.trans aF.o));clear aF aI hkl;obtain⟨c0,c1,c2,c3,c4,s0,s1,s2,g0⟩:=cB.o wr aZ.o;have aY:=Aa (Mn wr (HG.o.ex aE.o) HN.o.1 HN.o.2.1 HN.o.2.2 cV.o _ _ (bF.o.ex aE.o) (D:Int) L _ (bY.o.ex aE.o) xs _ (dW.o.ex aE.o));unfold AU.arg at aY;dsimp only at aY;obtain⟨XK,bR⟩:∃x,JL ⟨pn,mn,aB,N,aC⟩ (pn^mn) L (Ds N (pn^mn)) xs=x:=⟨_,rfl⟩;rw[bR]at aY;rw[bC.o]at aY s1;have cT:=Aa bR;clear bR;go_wp2_with fail
      refine aY.o.mono ?_;rintro e w9⟨rfl,aS⟩;have dQ:=Aa aS;replace s0:=aS.cell s0;replace s1:=aS.cell s1;have aP:=Aa (aJ.o.trans (aZ.o.trans aS));clear aS c0 c1 c2 c3 c4 s2 g0
      cases XK with
      | false=>
       have HR:=Aa (aK.o fun h=>by have h1:=h.2.2.2;rw[dB.o,cT.o]at h1;cases h1);go_wp2_with fail
       exact zbr
      | true=>
       have HA:=Aa (cF.o ⟨bD.o,by rw[dC.o,cA.o],HM.o,by rw[dB.o,cT.o]⟩);have cU:=Aa (Om w9 (D:Int) L _ (bY.o.ex (aE.o.trans dQ.o)) dA.o);rw[bC.o]at cU;go_wp2_with fail
       refine cU.o.mono ?_;rintro e w10⟨dF,aV⟩;rcases dF with⟨h1,-⟩|⟨-,v,rfl,hv⟩
       .exact absurd bD.o h1
       .have HV:=Aa hv;have dP:=Aa (aP.o.trans aV);clear hv aV s0 s1;go_wp2_with fail
        exact bodyPost_ret (v:= .tuple #[v,.int .i64 0]) (by simp[results,Tryz.results29,go_sem]) rfl ⟨aQ.o _ _ (HA.o _ _ HV.o),dP.o⟩
end Go.Proofs.YtehieobniamagaaGreat
