/- Walk of automorphism.Check (slices.IndexFunc and ContainsFunc by the templates of gen_finde.py). -/
import Derived.Test.YtehieobniamagaaGreatZd29
namespace Go.Proofs.YtehieobniamagaaGreat
open Go.RowKit
set_option linter.all false
set_option maxRecDepth 100000
set_option maxHeartbeats 8000000
theorem L7(w:World)(p0 p1:Value)(v:Value)(n:Nat)(us:List Value)(hv:Sl w v n 1 us)(pr:Nat->Bool)
  (hp:∀(w1:World) (i:Nat) (u:Value),Ex w w1->us[i]?=some u->Calls Tryz.prog 72 #[u,p0,p1] w1 fun e w'=>e= .returned (.bool (pr i))/\Ex w1 w'):
  Calls Tryz.prog 129 #[v,.func (.func 72) #[] #[p0,p1]] w fun r w'=>r= .returned (.int .i64 (Cz pr n))/\Ex w w':=by
 obtain⟨hl,a,cap,rfl,s1,s2,s3⟩:=hv;rw[Nat.mul_one]at hl;have S3:=Aa s3;have HP:=Aa hp;have HL:=Aa hl;unfold maxLen at s2;clear s3 hp hl;go_enter Tryz.func129,Tryz.ntmps129
 go_wp2_with fail
 go_loopg [5,8] n (fun gg _ i' wr=>∃i:Nat,i<=n/\n-i<=gg/\i'= .int .i64 i/\Hia (Ex w wr)/\Hia (∀j,j<i->pr j=false))
 case atStart=>exact⟨0,ac,ac,rfl,Aa (Ex.refl _),Aa (fun j hj=>ac)⟩
 case round=>
  obtain⟨i,hi,hg,rfl,aB,aA⟩:=hrel;by_cases hlt:i<n
  .obtain⟨u,hu⟩:∃u,us[i]?=some u:=⟨_,List.getElem?_eq_getElem a8⟩;obtain⟨bb,o,rfl,hc⟩:=S3.o ac;have c1:=aB.o.cell (hc i u hu);have HC:=Aa (HP.o wr i u aB.o hu);have hlt':(i:Int)<(n:Int):=by omega
   clear hc hu
   cases hb:pr i with
   | true=>
    rw[hb]at HC;have HF:=Aa (CH hlt hb aA.o);clear hb;go_wp2_with (go_at_call 72;refine HC.o.mono ?_;rintro e w'⟨rfl,hx⟩;have HX:=Aa (aB.o.trans hx);clear hx)
    exact zc6
   | false=>
    rw[hb]at HC;have HA:=Aa (show ∀j,j<i+1->pr j=false from fun j hj=>by
     by_cases e:j=i
     .subst e;exact hb
     .exact aA.o j ac)
    clear hb;go_wp2_with (go_at_call 72;refine HC.o.mono ?_;rintro e w'⟨rfl,hx⟩;have HX:=Aa (aB.o.trans hx);clear hx)
    exact zbR
  .exact zaD
theorem I8(w:World)(p0 p1:Value)(v:Value)(n:Nat)(us:List Value)(hv:Sl w v n 1 us)(pr:Nat->Bool)
  (hp:∀(w1:World) (i:Nat) (u:Value),Ex w w1->us[i]?=some u->Calls Tryz.prog 72 #[u,p0,p1] w1 fun e w'=>e= .returned (.bool (pr i))/\Ex w1 w'):
  Calls Tryz.prog 71 #[v,.func (.func 72) #[] #[p0,p1]] w fun r w'=>r= .returned (.bool ((List.range n).any pr))/\Ex w w':=by
 have HC:=Aa (L7 w p0 p1 v n us hv pr hp);have HB:=Aa (DZ pr n);obtain⟨z,hz⟩:=nA (Cz pr n);rw[hz]at HC HB;clear hz hp hv;go_enter Tryz.func71,Tryz.ntmps71
 go_wp2_with (go_at_call 129;refine HC.o.mono ?_;rintro e w'⟨rfl,hx⟩;have HX:=Aa hx;clear hx)
 go_ret;exact⟨Ap HB.o.symm,HX.o⟩
section
variable {b p m x0 N:Nat} {ml:List Int} {rows:List (List Int)}
theorem Y8(w:World)(hg:A9 w b p m ml x0)(aD:1<=N)(hN:N<=64)(hd:N*(p^m-1)<=64)(ho:BN p m ml N rows 0)(m1 v1:Value)(hc:(⟨p,m,ml,N,rows⟩:AU).at w m1 v1)(P:List Int)(pv:Value)(hp:Am w pv P)(aA:P.length=N*(p^m-1))(aB:∀x∈P,0<=x/\x<(P.length:Int))
  (GB CB:Nat) (g0:w.cell? ⟨GB,0,none⟩=some (.pointer (some ⟨b,0,none⟩))) (c0:w.cell? ⟨CB,0,none⟩=some (.int .i64 p)) (c1:w.cell? ⟨CB,1,none⟩=some (.int .i64 m)) (c2:w.cell? ⟨CB,2,none⟩=some m1) (c3:w.cell? ⟨CB,3,none⟩=some (.int .i64 N)) (c4:w.cell? ⟨CB,4,none⟩=some v1):
  Calls Tryz.prog 72 #[pv,.pointer (some ⟨GB,0,none⟩),.pointer (some ⟨CB,0,none⟩)] w fun r w'=>r= .returned (.bool (!FX p m ml N rows P))/\Ex w w':=by
 have HM:=Aa (Rc w hg aD hN hd ho m1 v1 hc P pv hp aA aB);unfold AU.arg at HM;dsimp only at HM;obtain⟨x1,y1,rfl,-,-,-⟩:=hc.g.open;obtain⟨x3,y3,rfl,-,-,-⟩:=hc.m.open;obtain⟨x5,y5,rfl,-,-,-⟩:=hp.open;obtain⟨MB,aC⟩:∃x,FX p m ml N rows P=x:=⟨_,rfl⟩;rw[aC]at HM ⊢;clear aC hg hc hp ho aA aB hd;go_enter Tryz.func72,Tryz.ntmps72
 go_wp2_with (go_at_call 73;refine HM.o.mono ?_;rintro e w'⟨rfl,hx⟩;have HX:=Aa hx;clear hx)
 go_ret;exact⟨rfl,HX.o⟩
end
open Classical in
noncomputable def VD (c:AU) (L:List Lv):Bool:=decide (∀l∈L,∀r∈l.reps,FX c.p.toNat c.m.toNat c.ml c.n.toNat c.rows r=true)
theorem Po{c:AU}{L:List Lv}:VD c L=true↔∀l∈L,∀r∈l.reps,FX c.p.toNat c.m.toNat c.ml c.n.toNat c.rows r=true:=by
 unfold VD;simp only[decide_eq_true_eq]
def WX(c:AU)(dg:Int)(L:List Lv)(xs:List GF):Prop:=BA dg L=0/\dg=Fa c/\VD c L=true/\KU c (c.p.toNat^c.m.toNat) L (AD c) xs=true
def WU(c:AU)(dg:Int)(L:List Lv)(xs:List GF)(r:Ending)(w':World):Prop:=∃e0:Int,BN c.p c.m c.ml c.n c.rows e0/\
 ((Ip c e0≠0/\r= .returned (.tuple #[.slice none 0 0,.int .i64 (Ip c e0)]))∨
 (Ip c e0=0/\¬WX c dg L xs/\r= .returned (.tuple #[.slice none 0 0,.int .i64 13]))∨
 (Ip c e0=0/\WX c dg L xs/\∃v,r= .returned (.tuple #[v,.int .i64 0])/\Il w' v (Iv L)))
theorem zbv{P:Prop}(h:P:=by
 go_wp2_with fail
 exact bodyPost_ret (v:= .tuple #[.slice none 0 0,.int .i64 13]) (by simp[results,Tryz.results29,go_sem]) rfl ⟨aQ.o _ _ (HR.o _),aH.o⟩):P:=h
theorem zby{P:Prop}(h:P:=by
 exact bodyPost_ret (v:= .tuple #[.slice none 0 0,.int .i64 13]) (by simp[results,Tryz.results29,go_sem]) rfl ⟨aQ.o _ _ (HR.o _),aP.o⟩):P:=h
theorem Qx(w:World)(c:AU)(m1 v1:Value)(hc:c.at w m1 v1)(dg:Int)(L:List Lv)(lv:Value)(hL:EF w lv L)(cQ:(Bu L).length<=1000)(xs:List GF)(rv:Value)(hx:Lo w rv xs):
  Calls Tryz.prog 29 #[c.arg m1 v1,.agg #[.int .i64 dg,lv,rv]] w fun r w'=>WU c dg L xs r w'/\Ex w w':=by
 obtain⟨c0,c1,c2,c3,c4⟩:=C6 w c m1 v1;have cI:=AJ w (c.obj m1 v1);have cL:(w.alloc (c.obj m1 v1)).heap.size=w.heap.size+1:=ag;have aA:=AJ (w.alloc (c.obj m1 v1)) (.cells #[.int .i64 dg,lv,rv] 53);have s0:((w.alloc (c.obj m1 v1)).alloc (.cells #[.int .i64 dg,lv,rv] 53)).cell? ⟨(w.alloc (c.obj m1 v1)).heap.size,0,none⟩=some (.int .i64 dg):=ag;have s1:((w.alloc (c.obj m1 v1)).alloc (.cells #[.int .i64 dg,lv,rv] 53)).cell? ⟨(w.alloc (c.obj m1 v1)).heap.size,1,none⟩=some lv:=ag;have s2:((w.alloc (c.obj m1 v1)).alloc (.cells #[.int .i64 dg,lv,rv] 53)).cell? ⟨(w.alloc (c.obj m1 v1)).heap.size,2,none⟩=some rv:=ag;rw[cL]at s0 s1 s2;have aN:=Aa (cI.trans aA);have bG:=Aa (hc.ex aN.o);have HL:=Aa (hL.ex aN.o);have HX:=Aa (hx.ex aN.o);have aR:=Aa (Kn _ c m1 v1 bG.o);obtain⟨x1,y1,cK,-,z1,-⟩:=hc.g.open;obtain⟨x3,y3,cJ,-,z3,-⟩:=hc.m.open;obtain⟨la,lc,dJ,-,zl,-⟩:=hL.open3;obtain⟨ra,rc,dG,-,zr,-⟩:=hx.open;unfold maxLen at z1 z3 zl zr;obtain⟨B,hB⟩:=nA w.heap.size;rw[hB]at c0 c1 c2 c3 c4 s0 s1 s2;replace c0:=aA.cell c0;replace c1:=aA.cell c1;replace c2:=aA.cell c2;replace c3:=aA.cell c3;replace c4:=aA.cell c4;obtain⟨C,hC⟩:∃C:AU,C=c:=⟨_,rfl⟩;have aO:=Aa hC;have aQ:=Aa (show ∀r w',WU C dg L xs r w'->WU c dg L xs r w' from fun r w' h=>by rw[<-hC];exact h);obtain⟨cp,cm,aB,cn,aC⟩:=c;unfold AU.arg at aR ⊢;unfold AU.obj at aN bG HL HX aR c0 c1 c2 c3 c4 s0 s1 s2;dsimp only at aN bG HL HX aR c0 c1 c2 c3 c4 s0 s1 s2 cK cJ ⊢;rw[<-hC]at aR;subst cK cJ dJ dG;clear hc cI aA hL hx cL hC;have dA:=Aa cQ;clear cQ;go_enter Tryz.func29,Tryz.ntmps29
 go_upto_region 1 with fail
 have aW:(w.alloc (.cells #[.int .i64 cp,.int .i64 cm,.slice x3 aB.length y3,.int .i64 cn,.slice x1 aC.length y1] 39)).heap.size=B+1:=by simp[hB]
 try simp only[aW]
 try simp only[hB]
 clear hB aW;generalize (w.alloc (.cells #[.int .i64 cp,.int .i64 cm,.slice x3 aB.length y3,.int .i64 cn,.slice x1 aC.length y1] 39)).alloc (.cells #[.int .i64 dg,.slice la L.length lc,.slice ra xs.length rc] 53)=w1 at *;go_wp2_with fail
 refine aR.o.mono ?_;rintro e w2⟨⟨e0,cR,ho⟩,aA⟩;have bB:=Aa aA;have bM:=Aa cR;replace c0:=aA.cell c0;replace c1:=aA.cell c1;replace c2:=aA.cell c2;replace c3:=aA.cell c3;replace c4:=aA.cell c4;replace s0:=aA.cell s0;replace s1:=aA.cell s1;replace s2:=aA.cell s2;clear aA cR aR;obtain⟨OE,aM⟩:∃x,Ip C e0=x:=⟨_,rfl⟩;rw[aM]at ho;have bL:=Aa aM;rcases ho with⟨h0,ptr,d,rfl⟩|⟨h0,pn,mn,N,b,x0,hp,hm,hn,hN1,hN64,hD,rfl,hg,hx1,aA⟩
 .have hb:(OE !=0)=true:=by simpa using h0
  have H0:=Aa h0;have aP:=Aa (fun o=>aN.o.trans (bB.o.trans (AJ w2 o)));clear h0 aM;go_wp2_with fail
  exact bodyPost_ret (v:= .tuple #[.slice none 0 0,.int .i64 OE]) (by simp[results,Tryz.results29,go_sem]) rfl ⟨aQ.o _ _ ⟨e0,bM.o,.inl ⟨by rw[bL.o];exact H0.o,by rw[bL.o]⟩⟩,aP.o _⟩
 .subst h0;have dX:=Aa (show e0=0 from by
   unfold Ip at aM;split at aM
   .exact aM
   .omega)
  have dM:cn=(N:Int):=by have:=aO.o;rw[this]at hn;exact hn
  have dL:cp=(pn:Int):=by have:=aO.o;rw[this]at hp;exact hp
  have dN:cm=(mn:Int):=by have:=aO.o;rw[this]at hm;exact hm
  subst dM dL dN;obtain⟨cV,dC,dV,cX⟩:=Eq (show BN pn mn aB N aC 0 from by have h1:=bM.o;rw[aO.o,dX.o]at h1;exact h1) (show(Fa C:Int)=((N*(pn^mn-1):Nat):Int) from by unfold Fa;rw[hp,hm,hn];rfl) (show AD C=Dn N (pn^mn) from by unfold AD;rw[hp,hm,hn];rfl) (show(∀l∈L,∀r∈l.reps,FX pn mn aB N aC r=true)↔VD C L=true from by rw[Po,aO.o];exact Iff.rfl);obtain⟨dB,aK,cF,HG,HN,bF,bY,dW,aD⟩:=Ty (show KU C (C.p.toNat^C.m.toNat) L (AD C) xs=KU ⟨pn,mn,aB,N,aC⟩ (pn^mn) L (Dn N (pn^mn)) xs from by rw[dV.o,aO.o];first|done|rfl) (show ¬WX C dg L xs->∀(w':World),WU C dg L xs (.returned (.tuple #[.slice none 0 0,.int .i64 13])) w' from fun h w'=>⟨e0,bM.o,.inr (.inl ⟨bL.o,h,rfl⟩)⟩) (show WX C dg L xs->∀(w':World) (v:Value),Il w' v (Iv L)->WU C dg L xs (.returned (.tuple #[v,.int .i64 0])) w' from fun h w' v hv=>⟨e0,bM.o,.inr (.inr ⟨bL.o,h,v,rfl,hv⟩)⟩) (show A9 w2 b pn mn aB x0 from by have h:=hg;rw[aO.o]at h;exact h) (show 1<=N/\N<=64/\N*(pn^mn-1)<=64 from⟨hN1,hN64,hD⟩) (bG.o.ex bB.o) (HL.o.ex bB.o) (HX.o.ex bB.o) (AJ w2 (.cells #[.pointer (some ⟨b,0,none⟩)] 97));have g0:(w2.alloc (.cells #[.pointer (some ⟨b,0,none⟩)] 97)).cell? ⟨w2.heap.size,0,none⟩=some (.pointer (some ⟨b,0,none⟩)):=by simp
  obtain⟨GB,bU⟩:∃x,w2.heap.size=x:=⟨_,rfl⟩;rw[bU]at g0;obtain⟨D,bV⟩:=nA (N*(pn^mn-1));have cA:=Aa bV;rw[bV];clear hp hm hn hN1 hN64 hD hg hx1 aA aM bV bG HL HX;go_upto_region 2 with fail
  try simp only[bU]
  clear bU;generalize w2.alloc (.cells #[.pointer (some ⟨b,0,none⟩)] 97)=w3 at *;replace c0:=aD.o.cell c0;replace c1:=aD.o.cell c1;replace c2:=aD.o.cell c2;replace c3:=aD.o.cell c3;replace c4:=aD.o.cell c4;replace s0:=aD.o.cell s0;replace s1:=aD.o.cell s1;replace s2:=aD.o.cell s2;have aJ:=Aa (aN.o.trans (bB.o.trans aD.o));have cZ:=Aa (bY.o.ex aD.o);have cB:=Aa (fun (w5:World) (h5:Ex w3 w5)=>(⟨h5.cell c0,h5.cell c1,h5.cell c2,h5.cell c3,h5.cell c4,h5.cell s0,h5.cell s1,h5.cell s2,h5.cell g0⟩:w5.cell? ⟨B,0,none⟩=some (.int .i64 pn)/\w5.cell? ⟨B,1,none⟩=some (.int .i64 mn)/\w5.cell? ⟨B,2,none⟩=some (.slice x3 aB.length y3)/\w5.cell? ⟨B,3,none⟩=some (.int .i64 N)/\w5.cell? ⟨B,4,none⟩=some (.slice x1 aC.length y1)/\w5.cell? ⟨B+1,0,none⟩=some (.int .i64 dg)/\w5.cell? ⟨B+1,1,none⟩=some (.slice la L.length lc)/\w5.cell? ⟨B+1,2,none⟩=some (.slice ra xs.length rc)/\w5.cell? ⟨GB,0,none⟩=some (.pointer (some ⟨b,0,none⟩))));have bN:=Aa (Gr w3 dg L _ cZ.o dA.o);obtain⟨KK,bT⟩:∃x,BA dg L=x:=⟨_,rfl⟩;rw[bT]at bN;have bD:=Aa bT;clear bT;by_cases hk:KK=0
  rotate_left
  .have hb:(KK !=0)=true:=by simpa using hk
   have HR:=Aa (aK.o fun h=>hk (bD.o.symm.trans h.1));clear hk;go_wp2_with fail
   refine bN.o.mono ?_;rintro e w5⟨rfl,aG⟩;have aH:=Aa (aJ.o.trans aG);clear aG c0 c1 c2 c3 c4 s0 s1 s2 g0;exact zbv
  .subst hk;by_cases hdg:dg=(D:Int)
   rotate_left
   .have hb:(dg !=(D:Int))=true:=by simpa using hdg
    have HR:=Aa (aK.o fun h=>hdg (h.2.1.trans (by rw[dC.o,cA.o])));clear hdg;go_wp2_with fail
    refine bN.o.mono ?_;rintro e w5⟨rfl,aG⟩;have aH:=Aa (aJ.o.trans aG);replace s0:=aG.cell s0;clear aG c0 c1 c2 c3 c4 s1 s2 g0;exact zbv
   .subst hdg;have dS:=Aa (show ∀l∈L,∀r∈l.reps,r.length=N*(pn^mn-1)/\∀x∈r,0<=x/\x<(r.length:Int) from fun l hl r hr=>by
     have h1:BA (D:Int) L=0:=bD.o;unfold BA at h1;split at h1
     .cases h1
     .split at h1
      .rename_i h2 h3;obtain⟨N',h4,-,-,S,h5,h6⟩:=JM h3.1;have h7:r∈Bu L:=by unfold Bu;exact List.mem_flatMap.2 ⟨l,hl,hr⟩
       rw[h5]at h7;obtain⟨f,hf,rfl⟩:=List.mem_map.1 h7;have h8:(li N' f).length=N':=E6 _ _;refine⟨by rw[h8,cA.o];omega,fun x hx=>?_⟩;rw[h8];obtain⟨i,hi⟩:=List.mem_iff_getElem?.1 hx;have h9:i<N':=by have:=(List.getElem?_eq_some_iff.1 hi).1;rw[h8]at this;exact this
       rw[DK h9]at hi;injection hi with hi;have:=(h6 f hf).lt i h9;omega
      .cases h1)
    go_upto_region 6 with (go_at_call 70;refine bN.o.mono ?_;rintro e w5⟨rfl,aG⟩;have aH:=Aa aG;replace s0:=aG.cell s0;clear aG)
    clear c0 c1 c2 c3 c4 s0 s1 s2 g0;obtain⟨LL,bH⟩:∃n,L.length=n:=⟨_,rfl⟩;have bC:=Aa bH;obtain⟨la2,lc2,cM,dE,dD,cG⟩:=(cZ.o.ex aH.o).open3;have dK:la=la2:=by injection cM
    subst dK;have Z3:=Aa (show 0<LL->_ from fun h=>cG (by rw[bH];exact h));have dT:=Aa (show LL<=1048576 from by
     have h1:BA (D:Int) L=0:=bD.o;obtain⟨n,e1,h2,h3,S,h4,h5,h6⟩:=Td h1;rw[<-bH,h6,List.length_map];unfold Pb;exact Nat.le_trans (List.length_filter_le _ _) (by rw[List.length_range];omega))
    obtain⟨c0,c1,c2,c3,c4,s0,s1,s2,g0⟩:=cB.o w5 aH.o;have H0:=Aa (show ∀l∈L.take 0,∀r∈l.reps,FX pn mn aB N aC r=true from fun l hl=>by simp at hl);clear cM dE dD cG bH;go_upto_region 7 with fail
    simp only[bC.o];clear c0 c1 c2 c3 c4 s0 s1 s2 g0
    go_loopw [35] (fun k' wr=>∃k:Nat,k<=LL/\k'= .int .i64 k/\Hia (Ex w5 wr)/\Hia (∀l∈L.take k,∀r∈l.reps,FX pn mn aB N aC r=true)) (fun k' _=>LL-(intOf k').toNat)
    case atStart=>exact⟨0,ac,rfl,Aa (Ex.refl _),H0⟩
    case round=>
     clear H0;obtain⟨k,hk,rfl,aF,aI⟩:=hrel;by_cases hkl:k<LL
     .obtain⟨eb,eo,rfl,cS⟩:=Z3.o ac;obtain⟨l,hl⟩:∃l,L[k]?=some l:=⟨_,List.getElem?_eq_getElem (by rw[bC.o];exact hkl)⟩;obtain⟨ou,orr,d0,d1,d2,k4,k5⟩:=cS k l hl;obtain⟨oa,oc,rfl,-,-,-⟩:=k4.open;clear k4;replace d0:=aF.o.cell d0;replace d1:=aF.o.cell d1;replace d2:=aF.o.cell d2;obtain⟨cY,dU,bZ,dR⟩:=Eq (List.mem_of_getElem? hl) hl hkl (k5.ex aF.o);obtain⟨qa,qc,rfl,-,-,-⟩:=k5.open;have i1:(0:Int)<=(k:Int):=by omega
      have i2:(k:Int)<(LL:Int):=ac;have hk64:k<=1048576:=by have:=dT.o;omega
      have bI:=Aa aF.o;have cE:=Aa aI.o;clear cS hl hkl k5 aF aI;go_upto_region 9 with fail
      have bx:∀x:Nat,wr.heap.size=x->(wr.alloc (.cells #[.int .i64 l.pt,.slice oa l.orb.length oc,.slice qa l.reps.length qc] 90)).cell? ⟨x,2,none⟩=some (.slice qa l.reps.length qc):=fun x h=>by subst h;simp
      obtain⟨XB,bS⟩:∃x,wr.heap.size=x:=⟨_,rfl⟩;have x2':=bx XB bS;have bK:=Aa (AJ wr (.cells #[.int .i64 l.pt,.slice oa l.orb.length oc,.slice qa l.reps.length qc] 90))
      try simp only[bS]
      clear bS d0 d1 d2 i1 i2 bx;generalize wr.alloc (.cells #[.int .i64 l.pt,.slice oa l.orb.length oc,.slice qa l.reps.length qc] 90)=w6 at *;have bA:=Aa (aH.o.trans (bI.o.trans bK.o));obtain⟨pr,cN⟩:∃pr:Nat->Bool,∀(j:Nat) (r:List Int),l.reps[j]?=some r->pr j=!FX pn mn aB N aC r:=⟨fun j=>match l.reps[j]? with|some r=> !FX pn mn aB N aC r|none=>false,fun j r h=>by simp[h]⟩;have bX:=Aa cN;obtain⟨vals,bP,cH⟩:=dR.o.ex bK.o;have cC:=Aa (I8 w6 (.pointer (some ⟨GB,0,none⟩)) (.pointer (some ⟨B,0,none⟩)) (.slice qa l.reps.length qc) l.reps.length vals bP pr (fun w7 i u h7 hu=>by
       have hil:i<l.reps.length:=by
        have h1:=(List.getElem?_eq_some_iff.1 hu).1;have h2:=bP.1;omega
       have bQ:l.reps[i]?=some (l.reps[i]'hil):=List.getElem?_eq_getElem _;rw[bX.o i _ bQ];obtain⟨c0,c1,c2,c3,c4,-,-,-,g0⟩:=cB.o w7 (bA.o.trans h7);obtain⟨dI,dH⟩:=dS.o l cY.o _ (List.mem_of_getElem? bQ);have aU:=aD.o.trans (bA.o.trans h7);exact Y8 w7 (HG.o.ex aU) HN.o.1 HN.o.2.1 HN.o.2.2 cV.o _ _ (bF.o.ex aU) _ u ((cH i _ u bQ hu).ex h7) dI dH GB B g0 c0 c1 c2 c3 c4))
      obtain⟨AN,bW⟩:∃x,(List.range l.reps.length).any pr=x:=⟨_,rfl⟩;rw[bW]at cC;have bO:=Aa bW;clear cN bW bP cH;have aX:AN=true->¬(∀r∈l.reps,FX pn mn aB N aC r=true):=fun h dO=>by
       rw[h]at bO;obtain⟨j,hj,hp⟩:=List.any_eq_true.1 bO.o;have cP:=List.mem_range.1 hj;rw[bX.o j _ (List.getElem?_eq_getElem cP),dO _ (List.getElem_mem cP)]at hp;cases hp
      have aL:AN=false->∀r∈l.reps,FX pn mn aB N aC r=true:=fun h r hr=>by
       rw[h]at bO;obtain⟨j,hj,rfl⟩:=List.getElem_of_mem hr;have h1:=List.any_eq_false.1 bO.o j (List.mem_range.2 hj);rw[bX.o j _ (List.getElem?_eq_getElem hj)]at h1;simpa using h1
      have cD:=Aa aX;have bE:=Aa aL;clear aX aL
      cases AN with
      | true=>
       have HR:=Aa (aK.o fun h=>cD.o rfl (cX.o.2 h.2.2.1 l cY.o));go_wp2_with (go_at_call 71;refine cC.o.mono ?_;rintro e w8⟨rfl,aT⟩;have bJ:=Aa (bI.o.trans (bK.o.trans aT));clear aT)
       have aP:=Aa (aJ.o.trans (aH.o.trans bJ.o));exact zby
      | false=>
       have cW:=Aa (show ∀l∈L.take (k+1),∀r∈l.reps,FX pn mn aB N aC r=true from fun l' cO r hr=>by
        rw[List.take_add_one,dU.o]at cO;rcases List.mem_append.1 cO with h|h
        .exact cE.o l' h r hr
        .simp at h;subst h;exact bE.o rfl r hr)
       go_wp2_with (go_at_call 71;refine cC.o.mono ?_;rintro e w8⟨rfl,aT⟩;have bJ:=Aa (bI.o.trans (bK.o.trans aT));clear aT)
       go_roundw
       case rel=>first|exact⟨k+1,by have:=bZ.o;omega,by go_num,bJ,cW⟩|((repeat apply Exists.intro);exact⟨⟨k+1,by have:=bZ.o;omega,by go_num,bJ,cW⟩,rfl⟩)
       case measure=>have:=bZ.o;simp[intOf];omega
     .obtain rfl:LL=k:=by omega
      obtain⟨HM,bI,aZ,aE⟩:=Eq (cX.o.1 (by have h:=aI.o;rwa[List.take_of_length_le (by rw[bC.o];exact Nat.le_refl _)]at h)) aF.o (aH.o.trans aF.o) (aD.o.trans (aH.o.trans aF.o));clear aF aI hkl;obtain⟨c0,c1,c2,c3,c4,s0,s1,s2,g0⟩:=cB.o wr aZ.o;have aY:=Aa (NY wr (HG.o.ex aE.o) HN.o.1 HN.o.2.1 HN.o.2.2 cV.o _ _ (bF.o.ex aE.o) (D:Int) L _ (bY.o.ex aE.o) xs _ (dW.o.ex aE.o));unfold AU.arg at aY;dsimp only at aY;obtain⟨XK,bR⟩:∃x,KU ⟨pn,mn,aB,N,aC⟩ (pn^mn) L (Dn N (pn^mn)) xs=x:=⟨_,rfl⟩;rw[bR]at aY;rw[bC.o]at aY s1;have cT:=Aa bR;clear bR;go_wp2_with fail
      refine aY.o.mono ?_;rintro e w9⟨rfl,aS⟩;have dQ:=Aa aS;replace s0:=aS.cell s0;replace s1:=aS.cell s1;have aP:=Aa (aJ.o.trans (aZ.o.trans aS));clear aS c0 c1 c2 c3 c4 s2 g0
      cases XK with
      | false=>
       have HR:=Aa (aK.o fun h=>by have h1:=h.2.2.2;rw[dB.o,cT.o]at h1;cases h1);go_wp2_with fail
       exact zby
      | true=>
       have HA:=Aa (cF.o ⟨bD.o,by rw[dC.o,cA.o],HM.o,by rw[dB.o,cT.o]⟩);have cU:=Aa (Qn w9 (D:Int) L _ (bY.o.ex (aE.o.trans dQ.o)) dA.o);rw[bC.o]at cU;go_wp2_with fail
       refine cU.o.mono ?_;rintro e w10⟨dF,aV⟩;rcases dF with⟨h1,-⟩|⟨-,v,rfl,hv⟩
       .exact absurd bD.o h1
       .have HV:=Aa hv;have dP:=Aa (aP.o.trans aV);clear hv aV s0 s1;go_wp2_with fail
        exact bodyPost_ret (v:= .tuple #[v,.int .i64 0]) (by simp[results,Tryz.results29,go_sem]) rfl ⟨aQ.o _ _ (HA.o _ _ HV.o),dP.o⟩
def Ot(p m:Nat)(ml:List Int)(N:Nat)(rows ks:List (List Int)):Prop:=
 ∃(R:Nat) (b b':Nat->Nat->Int) (piv:List Nat),R<=256/\Iq p m ml N R b b' piv/\ks=Av N piv.length b'/\∀f,(∀j,j<N->0<=f j/\f j<((p^m:Nat):Int))->(Bz p m ml N R b f↔Cl p m ml N rows.length (Ak rows) f)
theorem EM.mslF{w:World}{base g R N k:Nat}{blk cap:Nat->Nat}{a:Nat->Nat->Int}{avs:List Nat}(h:EM w base g R N blk cap a avs){b0:Nat}(hb:b0<=base)(hk:k<=R)(hR:R<=256):D6 b0 w (.slice (some ⟨g,0,none⟩) k k) (Av N k a):=fun w' aA=>by
 refine⟨(List.range k).map fun i=>DW blk cap N i,?_,fun i r u h1 h2=>?_⟩
 .rw[AE];refine⟨ag,some ⟨g,0,none⟩,k,rfl,Nat.le_refl _,by unfold maxLen;omega,fun h0=>⟨g,0,rfl,fun i z hz=>?_⟩⟩;have hi:i<k:=by have:=(List.getElem?_eq_some_iff.1 hz).1;simpa using this
  simp[hi]at hz;subst hz;rw[Nat.zero_add];have hc:=h.cell (i:=i) ac;exact GC (aA g (by have:=h.arr.lt.1;omega) (World.block_lt_of_cell? _ _ hc)) hc
 .have hi:i<k:=by have:=(List.getElem?_eq_some_iff.1 h1).1;rw[AE]at this;exact this
  rw[Cx hi]at h1;injection h1 with h1;subst h1;simp[hi]at h2;subst h2;have hr:=h.row i ac;obtain⟨g1,c,cc,g2,g3,g4,g5⟩:=hr.isl;refine⟨g1,c,cc,g2,g3,g4,fun hn=>?_⟩;obtain⟨b,o,rfl,g7⟩:=g5 hn;refine⟨b,o,rfl,fun j u hu=>?_⟩;have hc:=g7 j u hu;have hbl:blk i=b:=by
   injection g2 with g2 _ _;injection g2 with g2;injection g2
  exact GC (aA b (by have:=hr.lt.1;omega) (World.block_lt_of_cell? _ _ hc)) hc
theorem PV.cut{p m R N c:Nat}{a:Nat->Nat->Int}{piv:List Nat}(h:PV p m R N a piv c):PV p m piv.length N a piv c:=
 ⟨Nat.le_refl _,fun i hi=>h.rng i (by have:=h.le;omega),h.lt,h.one,fun j q i hq hi=>h.zer j q i hq (by have:=h.le;omega),fun i j h1 h2 _=>absurd h2 ac,h.lead,h.asc⟩
theorem Ys{p m N R c0:Nat}{ml:List Int}{aC a':Nat->Nat->Int}{piv:List Nat}{KS:List (List Int)}(hp:2<=p)(hm:1<=m)(aI:c0<=N)(hP:PV p m R N a' piv c0)(aB:piv.length=R∨c0=N)(hS:∀x,Bz p m ml N R a' x↔Bz p m ml N R aC x)
  (hl:∀t∈KS,t.length=N) (hk:∀t∈KS,Bz p m ml N R aC (fun j=>t.getD j 0)) (aE:∀c,c<N->(∀i:Nat,piv[i]?≠some c)->∃f,il N f∈KS/\Kv p m a' piv c piv.length f) {f:Nat->Int} (hf:∀j,j<N->0<=f j/\f j<((p^m:Nat):Int)):
  Bz p m ml N KS.length (Ak KS) f↔Cl p m ml N R aC f:=by
 constructor
 .intro hs;have aJ:=hP.cut;have aA:∀x,Bz p m ml N piv.length a' x↔Bz p m ml N R a' x:=fun x=>⟨fun h i hi=>by
   by_cases hip:i<piv.length
   .exact h i hip
   .refine EO hp fun j hj=>?_;rcases aB with h1|h1
    .omega
    .exact hP.tail i j ac hi ac,fun h i hi=>h i (by have:=hP.le;omega)⟩
  have aK:Cl p m ml N piv.length a' f:=by
   rw[<-Z2 hp hm aJ aI rfl hf,OI,AF];intro j hj;have e:(il N (OX p m ml a' (fun i=>piv.getD i 0) f piv.length)).getD j 0=OX p m ml a' (fun i=>piv.getD i 0) f piv.length j:=dp;rw[e];have hr:=Nc (ml:=ml) (a:=a') hp (fun i=>piv.getD i 0) hf piv.length;have aG:∀k r:Nat,piv[k]?=some r->OX p m ml a' (fun i=>piv.getD i 0) f piv.length r=0:=fun k r hk=>by
    have aH:k<piv.length:=(List.getElem?_eq_some_iff.1 hk).1;have h2:=Nf (ml:=ml) hp hm aJ rfl hf piv.length (Nat.le_refl _) k aH;rw[if_pos aH]at h2;have:piv.getD k 0=r:=by rw[List.getD_eq_getElem?_getD,hk];rfl
    rw[this]at h2;exact h2
   by_cases hpv:∃i:Nat,piv[i]?=some j
   .obtain⟨i,hi⟩:=hpv;exact aG i j hi
   .obtain⟨x,aM,aF⟩:=aE j hj fun i h=>hpv ⟨i,h⟩;have aL:Bz p m ml N R a' x:=aF.sol hp hm hP aB aI hj fun i h=>hpv ⟨i,h⟩;obtain⟨t,ht,e2⟩:=List.getElem_of_mem aM;have h3:=hs t ht;have e4:dt p m ml N (Ak KS t) f=dt p m ml N f x:=by
     rw[DT];refine Fs (fun _ _=>rfl) fun k hk=>?_;unfold Ak;rw[List.getD_eq_getElem?_getD (l:=KS),List.getElem?_eq_getElem ht];show(KS[t]).getD k 0=_
     rw[e2,List.getD_eq_getElem?_getD,AH hk];rfl
    rw[e4]at h3;rw[<-Ng hp (fun i=>piv.getD i 0) ((aA x).2 aL) piv.length (Nat.le_refl _),aF.dt_none hp hm hj aG]at h3;obtain⟨r1,r2⟩:=hr j hj;have:=Er r1 r2;rw[h3]at this;exact this.symm
  intro x hx;exact aK x ((aA x).2 ((hS x).2 hx))
 .intro hc i hi;have aD:=List.getElem_mem hi;have h1:=hc _ (hk _ aD);rw[DT]at h1;have e:dt p m ml N (Ak KS i) f=dt p m ml N (fun j=>(KS[i]).getD j 0) f:=Fs (fun j hj=>by
   unfold Ak;rw[List.getD_eq_getElem?_getD (l:=KS),List.getElem?_eq_getElem hi];rfl) fun _ _=>rfl
  rw[e];exact h1
theorem Qu(p m N:Nat)(ml:List Int)(mv:Value)(w:World)(cJ:Am w mv ml)(rows:List (List Int))(v:Value)(hv:BO w v rows)(bV:EG p m ml)(bU:BL (p^m) N rows=0)(cP:1<=N):
  Calls Tryz.prog 103 #[.agg #[.int .i64 p,.int .i64 m,mv],.agg #[.int .i64 N,v]] w fun r w'=>∃ks kv,r= .returned (.tuple #[.agg #[.int .i64 N,kv],.int .i64 0])/\Ot p m ml N rows ks/\D6 w.heap.size w' kv ks/\Ex w w':=by
 obtain⟨s1,s2,s3,s4⟩:=DJ bU;have aL:=Aa (show ∀(i:Nat) (r:List Int),rows[i]?=some r->r.length=N/\B3 (p^m) r=0 from fun i r h=>by
  have:=s4 r (List.mem_of_getElem? h);exact⟨ac,this.2⟩)
 have HO:=Aa (fun w' B h1 h2 h3 h4=>Mn p m ml mv w' h1 N rows v h2 B h3 h4);obtain⟨g0,g1,g2,e0,bM⟩:=AC w p m mv;obtain⟨dU,HV,dV,cY⟩:=Eq cJ hv bU bV;have aR:=Aa (show GD p m ml/\FZ p m (lw ml) from by
  obtain⟨cC,cD,e3,e4,h,_,hF⟩:=bV;have e5:cC=p:=ac;have e6:cD=m:=ac;subst e5 e6;exact⟨h,hF⟩)
 obtain⟨za,zc,rfl,z1,z2,z3⟩:=hv.open;clear z1 z3;unfold maxLen at z2;obtain⟨xb,dA⟩:=nA w.heap.size;rw[dA]at g0 g1 g2 bM;have cO:N<=256:=ac;have dL:rows.length<=256:=s3;clear cJ hv s4 s1 s2 s3 bU bV;go_enter Tryz.func103,Tryz.ntmps103
 go_wp2_with fail
 generalize w.alloc (.cells #[.int .i64 p,.int .i64 m,mv] 24)=wA at *;obtain⟨a0,a1,ea⟩:=CI wA N (.slice za rows.length zc);have aY:(wA.alloc (.cells #[.int .i64 N,.slice za rows.length zc] 137)).heap.size=xb+1+1:=by simp[bM]
 rw[bM]at a0 a1;generalize wA.alloc (.cells #[.int .i64 N,.slice za rows.length zc] 137)=wB at *;obtain⟨q0,q1,eb⟩:=CI wB 0 (.slice none 0 0);have qf:(wB.alloc (.cells #[.int .i64 0,.slice none 0 0] 137)).frozen? ⟨xb+1+1,1,none⟩=false:=by rw[<-aY];simp
 have bP:(wB.alloc (.cells #[.int .i64 0,.slice none 0 0] 137)).frozen? ⟨xb+1+1,0,none⟩=false:=by rw[<-aY];simp
 have cQ:(wB.alloc (.cells #[.int .i64 0,.slice none 0 0] 137)).heap.size=xb+1+1+1:=by simp[aY]
 rw[aY]at q0 q1;generalize wB.alloc (.cells #[.int .i64 0,.slice none 0 0] 137)=wC at *;obtain⟨l0,l1,ec⟩:=CI wC N (.slice za rows.length zc);rw[cQ]at l0 l1;generalize wC.alloc (.cells #[.int .i64 N,.slice za rows.length zc] 137)=wD at *;have eD:Ex w wD:=((e0.trans ea).trans eb).trans ec;obtain⟨A0,A1,Q0,Q1,QF,aZ,dN⟩:=OK ((eb.trans ec).cell a0) ((eb.trans ec).cell a1) (ec.cell q0) (ec.cell q1) (ec.frz q1 qf) (ec.frz q0 bP) eD;refine(HO.o wD (xb+1+1+1) (dU.o.ex eD) (HV.o.ex eD) l0 l1).mono ?_;clear g0 g1 g2 e0 bM ea aY a0 a1 eb cQ q0 q1 qf bP l0 l1 ec eD HO;rintro e w2⟨ho,aF⟩;rcases ho with⟨pn,mn,x0,b,e1,e2,hg,hx01,hx02,⟨_,rfl⟩|⟨hno,_⟩⟩|⟨hno,_⟩
 .have e1:pn=p:=by omega
  have e2:mn=m:=ac;subst e1 e2;have HG:=Aa hg;have cS:=Aa (dN.o.trans aF);have c0:=aF.cell A0.o;have c1:=aF.cell A1.o;obtain⟨QF,aZ,Q0,Q1,A0⟩:=Of (aF.frz Q1.o QF.o) (aF.frz Q0.o aZ.o) (aF.cell Q0.o) (aF.cell Q1.o) c0;clear hg aF A1;have bA:=Aa (show 1<=x0/\x0<pn^mn from⟨hx01,hx02⟩);have bO:=Aa (MO w2 HG.o hx01 hx02 N rows.length rows _ (HV.o.ex cS.o) rfl dL cP cO aL.o);go_wp2_with (go_at_call 157;refine bO.o.mono ?_;rintro e w3⟨piv,pv,rv,a',rfl,bL,bR,bT,bJ,_⟩;have aP:=bJ.cell A0.o)
  obtain⟨HEL,dR,cT,dP,aA⟩:=Of bL bR bT (cS.o.trans bJ) bJ;obtain⟨ra,rc,rfl,_,r2,r3⟩:=bR.open;obtain⟨pa,pc,rfl,_,p2,p3⟩:=bT.open;unfold maxLen at r2 p2;rw[Kl]at cT p3;rw[AE]at dR r3;rw[Kl,AE];have dS:=Aa r3;have dT:=Aa p3;obtain⟨cE,cL,cN,aX,aW⟩:=id bL;obtain⟨aD,bB,bF,cA⟩:=Eq cN aW aX cL;clear cL cN aX aW r3 p3;have hpl:piv.length<=rows.length:=(Eu bL).1;have cW:=Aa (Bv.nil w3 w3.heap.size);have cX:=Aa (show ∀t∈([]:List (List Int)),t.length=N/\B3 (pn^mn) t=0/\∀r∈rows,BM pn mn ml r t 0=0 from fun t h=>by cases h);have aQ:=Aa (Ex.refl w3);clear bL bR bT bJ aP bO
  go_loopw [10,37] (fun cv c' wr=>∃(c:Nat) (KS:List (List Int)) (vals:List Value),c<=N/\c'= .int .i64 c/\KS.length<=c/\Hia (Bv wr w3.heap.size cv KS vals)/\Hia (∀t∈KS,t.length=N/\B3 (pn^mn) t=0/\∀r∈rows,BM pn mn ml r t 0=0)/\Hia (∀c',c'<c->(∀i:Nat,piv[i]?≠some c')->∃f,il N f∈KS/\Kv pn mn a' piv c' piv.length f)/\Hia (Ex w3 wr)) (fun _ c' _=>N-(intOf c').toNat)
  case atStart=>exact⟨0, [], [],ac,rfl,ag,cW,cX,Aa (fun c' h=>absurd h ac),aQ⟩
  case round=>
   clear cW cX aQ;obtain⟨c,KS,vals,hc,rfl,hkl,hm,aI,aK,hx⟩:=hrel;obtain⟨ca,cc,dI⟩:=Ad hm.o.cvo;subst dI;have aP:=hx.o.cell (aA.o.cell A0.o);by_cases hcN:c<N
   .have bN:=Aa (CM wr (pI piv) _ c (cT.o.ex hx.o));by_cases hcp:(pI piv).contains (c:Int)=true
    .rw[hcp]at bN;have bI:=Aa (show ∀c',c'<c+1->(∀i:Nat,piv[i]?≠some c')->∃f,il N f∈KS/\Kv pn mn a' piv c' piv.length f from fun c' h1 h2=>by
      by_cases e:c'=c
      .exfalso;subst e;have aS:=List.contains_iff_mem.1 hcp;unfold pI at aS;obtain⟨q,hq,e2⟩:=List.mem_map.1 aS;obtain⟨i,hi,e3⟩:=List.getElem_of_mem hq;exact h2 i (by rw[List.getElem?_eq_getElem hi,e3];congr 1;omega)
      .exact aK.o c' ac h2)
     clear hcp;go_wp2_with (go_at_call 132;refine bN.o.mono ?_;rintro e w4⟨rfl,rfl⟩)
     go_roundw
     case rel=>first|exact⟨c+1,KS,vals,ac,by go_num,ac,hm,aI,bI,hx⟩|((repeat apply Exists.intro);exact⟨⟨c+1,KS,vals,ac,by go_num,ac,hm,aI,bI,hx⟩,rfl⟩)
     case measure=>simp[intOf];omega
    .have aV:(pI piv).contains (c:Int)=false:=by simpa using hcp
     rw[aV]at bN;have cV:=Aa (show ∀i:Nat,piv[i]?≠some c from fun i h=>by
      have:(c:Int)∈pI piv:=by unfold pI;exact List.mem_map.2 ⟨c,List.mem_of_getElem? h,rfl⟩
      rw[List.contains_eq_mem]at aV;simp at aV;exact aV this)
     clear hcp aV;obtain⟨X0,dK⟩:=nA wr.heap.size;go_wp2_with (first|(go_at_call 132;refine bN.o.mono ?_;rintro e w4⟨rfl,rfl⟩)|(at_make;refine Aq _ rfl _ _ 22 rfl 3 (.int .i64 0) 8 Tryz.underlying22 AA rfl _ N rfl rfl rfl ac ai ?_))
     intro w5 hown5 aE
     try simp only[dK]at hown5 ⊢
     have dJ:=hown5.cell hcN;have dH:=hown5.frz c;have i1:(0:Int)<=(c:Int):=ac;have i2:(c:Int)<(N:Int):=ac;have bD:=Aa (show Kv pn mn a' piv c 0 (Az (fun _=>0) c 1) from Kv.zero);have cU:=Aa (show AG (w5.setCell ⟨X0,c,none⟩ (.int .i64 1)) X0 3 X0 N (iv (Az (fun _=>(0:Int)) c 1)) from by rw[<-Cn];exact hown5.set c _);have cR:=Aa (show Ex wr (w5.setCell ⟨X0,c,none⟩ (.int .i64 1)) from hown5.exSet ac aE c _);clear aE aP;go_wp2_with fail
     clear hown5 dJ dH
     go_loopw [51] (fun i' cB=>∃(i:Nat) (f:Nat->Int),i<=piv.length/\i'= .int .i64 i/\Hia (AG cB X0 3 X0 N (iv f))/\Hia (Kv pn mn a' piv c i f)/\Hia (Ex wr cB)) (fun i' _=>piv.length-(intOf i').toNat)
     case atStart=>exact⟨0,_,ac,rfl,cU,bD,cR⟩
     case round=>
      clear bD cU cR;obtain⟨i,f,hi,rfl,aB,aO,aE⟩:=hrel;by_cases hil:i<piv.length
      .obtain⟨q,hq⟩:∃q,piv[i]?=some q:=⟨_,List.getElem?_eq_getElem hil⟩;have dD:q<N:=by have:=aD.o.lt i q hq;have:=cA.o;omega
       have dC:q≠c:=fun e=>cV.o i (by rw[<-e];exact hq);have aM:=Aa (aO.o.succ aD.o hq dC);have cI:(pI piv)[i]?=some (q:Int):=by unfold pI;rw[List.getElem?_map,hq];rfl
       obtain⟨zb,zo,rfl,cF⟩:=dS.o ac;obtain⟨yb,yo,rfl,cG⟩:=dT.o ac;obtain⟨uz,c1,bK⟩:=cF i _ (Cx hil);have d1:=cG i _ cI;have aN:=hx.o.trans aE.o;have c1:=aN.cell c1;have d1:=aN.cell d1;have bK:=bK.ex aN;obtain⟨ua,uc,rfl,_,u2,u3⟩:=bK.open;rw[AF]at u3 c1;unfold maxLen at u2;obtain⟨vb,vo,rfl,cH⟩:=u3 ac;have v1:=cH c _ (AH hcN _);have bC:=Aa (JQ wr (HG.o.ex (aA.o.trans aN)) (a' i c));obtain⟨KN,dM⟩:∃K,Ct pn mn (Au (pn^mn) (a' i c))=K:=⟨_,rfl⟩;rw[dM]at bC aM;have bW:=aB.o.cell dD;have cK:=aB.o.frz q;have aQ:=Aa aN;have j1:(0:Int)<=(q:Int):=br;have j2:(q:Int)<(N:Int):=ac;clear hq cF cG bK cH u3 aO aN cI;go_wp2_with (go_at_call 158;refine bC.o.mono ?_;rintro e w7⟨rfl,n,rfl⟩;have bW:=((Ex.refl wr).drewN n).cell bW;have cK:=((Ex.refl wr).drewN n).frz bW cK)
       go_roundw
       case rel=>
        have HO:=Aa (show AG ((wr.drewN n).setCell ⟨X0,q,none⟩ (.int .i64 KN)) X0 3 X0 N (iv (Az f q KN)) from by rw[<-Cn];exact(aB.o.drewN n).set q _);have HX:=Aa ((aB.o.drewN n).exSet ac (aE.o.drewN n) q (.int .i64 KN))
        first|exact⟨i+1,_,ac,by go_num,HO,aM,HX⟩|((repeat apply Exists.intro);exact⟨⟨i+1,_,ac,by go_num,HO,aM,HX⟩,rfl⟩)
       case measure=>simp[intOf];omega
      .obtain rfl:piv.length=i:=by omega
       have bY:=Aa (hm.o.ex aE.o);have aQ:=Aa (hx.o.trans aE.o);have aG:=Aa (aO.o.sol (ml:=ml) aR.o.1.p2 aR.o.1.m1 aD.o bF.o cA.o hcN cV.o);have bE:=Aa (show ∀t∈KS ++ [il N f],t.length=N/\B3 (pn^mn) t=0/\∀r∈rows,BM pn mn ml r t 0=0 from fun t ht=>by
        rcases List.mem_append.1 ht with ht|ht
        .exact aI.o t ht
        .simp at ht;subst ht;refine⟨AF _ _,N0 fun x hx=>?_,UP (fun i r h=>(aL.o i r h).1) ((bB.o _).1 aG.o)⟩;obtain⟨j,hj,rfl⟩:=KH hx;exact aO.o.rng aR.o.1.p2 aR.o.1.m1 j)
       have bH:=Aa (show ∀c',c'<c+1->(∀i:Nat,piv[i]?≠some c')->∃g,il N g∈KS ++ [il N f]/\Kv pn mn a' piv c' piv.length g from fun c' h1 h2=>by
        by_cases e:c'=c
        .subst e;exact⟨f,ag,aO.o⟩
        .obtain⟨g,dG,dF⟩:=aK.o c' ac h2;exact⟨g,List.mem_append_left _ dG,dF⟩)
       have HL:=Aa (show wr.ownsRow w3.heap.size 3 1 (.slice (some ⟨X0,0,none⟩) N N) (il N f).length (Ao (il N f)) from by
        rw[AF,Cf];exact A5 aB.o (by have:=hx.o.size;omega))
       have cZ:=Aa (show AQ (.slice (some ⟨X0,0,none⟩) N N) (.slice ca KS.length cc) from by
        right;show some X0≠_
        intro e;have:=(hm.o.cvo.lt X0 e.symm).2;omega)
       have dQ:=Aa aQ.o.size;clear aO aB hm aI hx aE aG;go_wp2_with (at_builtin;refine Al _ rfl _ _ 37 rfl w3.heap.size 22 (.slice none 0 0) 1 24 Tryz.underlying37 BH rfl ae _ KS.length _ rfl bY.o.cvo [.slice (some ⟨X0,0,none⟩) N N] 22 _ rfl ag rfl aj ai ac dQ.o ?_)
       intro v2 w6 aC;have HO:=Aa (bY.o.app HL.o cZ.o aC);have HE:=Aa (aC.ex aQ.o (Nat.le_refl _));obtain⟨va,vc,dB⟩:=Ad aC.own;subst dB;clear aC HL cZ bY;go_wp2_with fail
       go_roundw
       case rel=>first|exact⟨c+1,KS ++ [il N f],_,ac,by go_num,by simp;omega,HO,bE,bH,HE⟩|((repeat apply Exists.intro);exact⟨⟨c+1,KS ++ [il N f],_,ac,by go_num,by simp;omega,HO,bE,bH,HE⟩,rfl⟩)
       case measure=>simp[intOf];omega
   .obtain rfl:N=c:=by omega
    have bX:=Aa hm.o.msl;have aJ:KS.length<=256:=ac;have bO:=Aa (MO wr (HG.o.ex (aA.o.trans hx.o)) bA.o.1 bA.o.2 N KS.length KS _ bX.o rfl aJ cP cO fun i r h=>by
     have:=aI.o r (List.mem_of_getElem? h);exact⟨this.1,this.2.1⟩)
    obtain⟨aZ,QF,Q0,Q1⟩:=Eq (hx.o.frz (aA.o.cell Q0.o) (aA.o.frz Q0.o aZ.o)) (hx.o.frz (aA.o.cell Q1.o) (aA.o.frz Q1.o QF.o)) (hx.o.cell (aA.o.cell Q0.o)) (hx.o.cell (aA.o.cell Q1.o));have aP:=hx.o.cell (aA.o.cell A0.o);go_wp2_with (go_at_call 157;refine bO.o.mono ?_;rintro e w8⟨piv2,pv2,rv2,a2,rfl,aU,bQ,bS,aH,g8,blk8,cap8,rfl,aT⟩;have aP:=aH.cell aP;have q0:=aH.cell Q0.o;have bP:=aH.frz Q0.o aZ.o;have q1:=aH.cell Q1.o;have qf1:=aH.frz Q1.o QF.o;have bG:=Aa aU;have bZ:=Aa aT;have dO:=Aa aH;clear aU aT aH bQ bS)
    have cM:xb+1+1<wr.heap.size:=World.block_lt_of_cell? _ _ Q0.o;have dE:=(Eu bG.o).1;have dW:=Aa (((((bZ.o.mslF (Nat.le_refl _) dE aJ).low (A:=⟨xb+1+1,0,none⟩) cM (.int .i64 N)).low (A:=⟨xb+1+1,1,none⟩) cM (.slice (some ⟨g8,0,none⟩) piv2.length piv2.length))).mono (show w.heap.size<=wr.heap.size from ac));have dX:=Aa (show Ot pn mn ml N rows (Av N piv2.length a2) from⟨KS.length,Ak KS,a2,piv2,aJ,bG.o,rfl,fun f hf=>Ys aR.o.1.p2 aR.o.1.m1 cA.o aD.o bF.o bB.o (fun t ht=>(aI.o t ht).1) (fun t ht=>by
     have h1:=aI.o t ht;refine U0 (fun i r h=>(aL.o i r h).1) fun r hr=>?_;have e:il N (fun j=>t.getD j 0)=t:=by
      apply List.ext_getElem?;intro j;by_cases h:j<N
      .rw[AH h,List.getD_eq_getElem?_getD,List.getElem?_eq_getElem ac];rfl
      .exact zaL
     rw[e];exact h1.2.2 r hr) (fun c hc=>aK.o c hc) hf⟩)
    have dY:=Aa ((((dP.o.trans hx.o).trans dO.o).setCell (p:=⟨xb+1+1,0,none⟩) ba (.int .i64 N)).setCell (p:=⟨xb+1+1,1,none⟩) ba (.slice (some ⟨g8,0,none⟩) piv2.length piv2.length));go_wp2_with fail
    exact bodyPost_ret (v:= .tuple #[.agg #[.int .i64 N,.slice (some ⟨g8,0,none⟩) piv2.length piv2.length],.int .i64 0]) (by simp[results,Tryz.results103,go_sem,q0,q1]) rfl ⟨_,_,rfl,dX.o,dW.o,dY.o⟩
 .exact absurd (by
   obtain⟨cC,cD,e3,e4,h,_⟩:=cY.o;have e5:pn=p:=ac;have e6:mn=m:=ac;subst e5 e6;exact dV.o) hno
 .exact absurd cY.o hno
end Go.Proofs.YtehieobniamagaaGreat
