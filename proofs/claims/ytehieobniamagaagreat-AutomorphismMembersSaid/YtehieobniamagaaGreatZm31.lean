/- Walk of automorphism.Check (slices.IndexFunc and ContainsFunc by the templates of gen_finde.py). -/
import Derived.Test.YtehieobniamagaaGreatZm30
namespace Go.Proofs.YtehieobniamagaaGreat
open Go.RowKit
set_option linter.all false
set_option maxRecDepth 100000
set_option maxHeartbeats 16000000
theorem Mi(w:World)(p0 p1:Value)(v:Value)(n:Nat)(us:List Value)(hv:Sl w v n 1 us)(pr:Nat->Bool)
  (hp:∀(w1:World) (i:Nat) (u:Value),Ex w w1->us[i]?=some u->Calls Tryz.prog 72 #[u,p0,p1] w1 fun e w'=>e= .returned (.bool (pr i))/\Ex w1 w'):
  Calls Tryz.prog 129 #[v,.func (.func 72) #[] #[p0,p1]] w fun r w'=>r= .returned (.int .i64 (Cu pr n))/\Ex w w':=by
 obtain⟨hl,a,cap,rfl,s1,s2,s3⟩:=hv;rw[Nat.mul_one]at hl;have S3:=Aa s3;have HP:=Aa hp;have HL:=Aa hl;unfold maxLen at s2;clear s3 hp hl;go_enter Tryz.func129,Tryz.ntmps129
 go_wp2_with fail
 go_loopg [5,8] n (fun gg _ i' wr=>∃i:Nat,i<=n/\n-i<=gg/\i'= .int .i64 i/\Hia (Ex w wr)/\Hia (∀j,j<i->pr j=false))
 case atStart=>exact⟨0,ac,ac,rfl,Aa (Ex.refl _),Aa (fun j hj=>ac)⟩
 case round=>
  obtain⟨i,hi,hg,rfl,aB,aA⟩:=hrel;by_cases hlt:i<n
  .obtain⟨u,hu⟩:∃u,us[i]?=some u:=⟨_,List.getElem?_eq_getElem a8⟩;obtain⟨bb,o,rfl,hc⟩:=S3.o ac;have c1:=aB.o.cell (hc i u hu);have HC:=Aa (HP.o wr i u aB.o hu);have hlt':(i:Int)<(n:Int):=by omega
   clear hc hu
   cases hb:pr i with
   | true=>
    rw[hb]at HC;have HF:=Aa (Cx hlt hb aA.o);clear hb;go_wp2_with (go_at_call 72;refine HC.o.mono ?_;rintro e w'⟨rfl,hx⟩;have HX:=Aa (aB.o.trans hx);clear hx)
    exact zdj
   | false=>
    rw[hb]at HC;have HA:=Aa (show ∀j,j<i+1->pr j=false from fun j hj=>by
     by_cases e:j=i
     .subst e;exact hb
     .exact aA.o j ac)
    clear hb;go_wp2_with (go_at_call 72;refine HC.o.mono ?_;rintro e w'⟨rfl,hx⟩;have HX:=Aa (aB.o.trans hx);clear hx)
    exact zbZ
  .exact zaF
theorem Jk(w:World)(p0 p1:Value)(v:Value)(n:Nat)(us:List Value)(hv:Sl w v n 1 us)(pr:Nat->Bool)
  (hp:∀(w1:World) (i:Nat) (u:Value),Ex w w1->us[i]?=some u->Calls Tryz.prog 72 #[u,p0,p1] w1 fun e w'=>e= .returned (.bool (pr i))/\Ex w1 w'):
  Calls Tryz.prog 71 #[v,.func (.func 72) #[] #[p0,p1]] w fun r w'=>r= .returned (.bool ((List.range n).any pr))/\Ex w w':=by
 have HC:=Aa (Mi w p0 p1 v n us hv pr hp);have HB:=Aa (D9 pr n);obtain⟨z,hz⟩:=nA (Cu pr n);rw[hz]at HC HB;clear hz hp hv;go_enter Tryz.func71,Tryz.ntmps71
 go_wp2_with (go_at_call 129;refine HC.o.mono ?_;rintro e w'⟨rfl,hx⟩;have HX:=Aa hx;clear hx)
 go_ret;exact⟨Ap HB.o.symm,HX.o⟩
section
variable {b p m x0 N:Nat} {ml:List Int} {rows:List (List Int)}
theorem Zs(w:World)(hg:Bf w b p m ml x0)(aD:1<=N)(hN:N<=64)(hd:N*(p^m-1)<=64)(ho:BL p m ml N rows 0)(m1 v1:Value)(hc:(⟨p,m,ml,N,rows⟩:AR).at w m1 v1)(P:List Int)(pv:Value)(hp:Aj w pv P)(aA:P.length=N*(p^m-1))(aB:∀x∈P,0<=x/\x<(P.length:Int))
  (GB CB:Nat) (g0:w.cell? ⟨GB,0,none⟩=some (.pointer (some ⟨b,0,none⟩))) (c0:w.cell? ⟨CB,0,none⟩=some (.int .i64 p)) (c1:w.cell? ⟨CB,1,none⟩=some (.int .i64 m)) (c2:w.cell? ⟨CB,2,none⟩=some m1) (c3:w.cell? ⟨CB,3,none⟩=some (.int .i64 N)) (c4:w.cell? ⟨CB,4,none⟩=some v1):
  Calls Tryz.prog 72 #[pv,.pointer (some ⟨GB,0,none⟩),.pointer (some ⟨CB,0,none⟩)] w fun r w'=>r= .returned (.bool (!Ga p m ml N rows P))/\Ex w w':=by
 have HM:=Aa (Rj w hg aD hN hd ho m1 v1 hc P pv hp aA aB);unfold AR.arg at HM;dsimp only at HM;obtain⟨x1,y1,rfl,-,-,-⟩:=hc.g.open;obtain⟨x3,y3,rfl,-,-,-⟩:=hc.m.open;obtain⟨x5,y5,rfl,-,-,-⟩:=hp.open;obtain⟨MB,aC⟩:∃x,Ga p m ml N rows P=x:=⟨_,rfl⟩;rw[aC]at HM ⊢;clear aC hg hc hp ho aA aB hd;go_enter Tryz.func72,Tryz.ntmps72
 go_wp2_with (go_at_call 73;refine HM.o.mono ?_;rintro e w'⟨rfl,hx⟩;have HX:=Aa hx;clear hx)
 go_ret;exact⟨rfl,HX.o⟩
end
open Classical in
noncomputable def VQ (c:AR) (L:List Lv):Bool:=decide (∀l∈L,∀r∈l.reps,Ga c.p.toNat c.m.toNat c.ml c.n.toNat c.rows r=true)
theorem Ps{c:AR}{L:List Lv}:VQ c L=true↔∀l∈L,∀r∈l.reps,Ga c.p.toNat c.m.toNat c.ml c.n.toNat c.rows r=true:=by
 unfold VQ;simp only[decide_eq_true_eq]
def Xp(c:AR)(dg:Int)(L:List Lv)(xs:List GQ):Prop:=Be dg L=0/\dg=ED c/\VQ c L=true/\K7 c (c.p.toNat^c.m.toNat) L (AD c) xs=true
def Xm(c:AR)(dg:Int)(L:List Lv)(xs:List GQ)(r:Ending)(w':World):Prop:=∃e0:Int,BL c.p c.m c.ml c.n c.rows e0/\
 ((IE c e0≠0/\r= .returned (.tuple #[.slice none 0 0,.int .i64 (IE c e0)]))∨
 (IE c e0=0/\¬Xp c dg L xs/\r= .returned (.tuple #[.slice none 0 0,.int .i64 13]))∨
 (IE c e0=0/\Xp c dg L xs/\∃v,r= .returned (.tuple #[v,.int .i64 0])/\IB w' v (IJ L)))
theorem zbz{P:Prop}(h:P:=by
 go_wp2_with fail
 exact bodyPost_ret (v:= .tuple #[.slice none 0 0,.int .i64 13]) (by simp[results,Tryz.results29,go_sem]) rfl ⟨aQ.o _ _ (HR.o _),aH.o⟩):P:=h
theorem zbE{P:Prop}(h:P:=by
 exact bodyPost_ret (v:= .tuple #[.slice none 0 0,.int .i64 13]) (by simp[results,Tryz.results29,go_sem]) rfl ⟨aQ.o _ _ (HR.o _),aP.o⟩):P:=h
theorem Qx(w:World)(c:AR)(m1 v1:Value)(hc:c.at w m1 v1)(dg:Int)(L:List Lv)(lv:Value)(hL:Er w lv L)(cQ:(AT L).length<=1000)(xs:List GQ)(rv:Value)(hx:LC w rv xs):
  Calls Tryz.prog 29 #[c.arg m1 v1,.agg #[.int .i64 dg,lv,rv]] w fun r w'=>Xm c dg L xs r w'/\Ex w w':=by
 obtain⟨c0,c1,c2,c3,c4⟩:=CH w c m1 v1;have cI:=AH w (c.obj m1 v1);have cL:(w.alloc (c.obj m1 v1)).heap.size=w.heap.size+1:=ag;have aA:=AH (w.alloc (c.obj m1 v1)) (.cells #[.int .i64 dg,lv,rv] 53);have s0:((w.alloc (c.obj m1 v1)).alloc (.cells #[.int .i64 dg,lv,rv] 53)).cell? ⟨(w.alloc (c.obj m1 v1)).heap.size,0,none⟩=some (.int .i64 dg):=ag;have s1:((w.alloc (c.obj m1 v1)).alloc (.cells #[.int .i64 dg,lv,rv] 53)).cell? ⟨(w.alloc (c.obj m1 v1)).heap.size,1,none⟩=some lv:=ag;have s2:((w.alloc (c.obj m1 v1)).alloc (.cells #[.int .i64 dg,lv,rv] 53)).cell? ⟨(w.alloc (c.obj m1 v1)).heap.size,2,none⟩=some rv:=ag;rw[cL]at s0 s1 s2;have aN:=Aa (cI.trans aA);have bG:=Aa (hc.ex aN.o);have HL:=Aa (hL.ex aN.o);have HX:=Aa (hx.ex aN.o);have aR:=Aa (Ky _ c m1 v1 bG.o);obtain⟨x1,y1,cK,-,z1,-⟩:=hc.g.open;obtain⟨x3,y3,cJ,-,z3,-⟩:=hc.m.open;obtain⟨la,lc,dJ,-,zl,-⟩:=hL.open3;obtain⟨ra,rc,dG,-,zr,-⟩:=hx.open;unfold maxLen at z1 z3 zl zr;obtain⟨B,hB⟩:=nA w.heap.size;rw[hB]at c0 c1 c2 c3 c4 s0 s1 s2;replace c0:=aA.cell c0;replace c1:=aA.cell c1;replace c2:=aA.cell c2;replace c3:=aA.cell c3;replace c4:=aA.cell c4;obtain⟨C,hC⟩:∃C:AR,C=c:=⟨_,rfl⟩;have aO:=Aa hC;have aQ:=Aa (show ∀r w',Xm C dg L xs r w'->Xm c dg L xs r w' from fun r w' h=>by rw[<-hC];exact h);obtain⟨cp,cm,aB,cn,aC⟩:=c;unfold AR.arg at aR ⊢;unfold AR.obj at aN bG HL HX aR c0 c1 c2 c3 c4 s0 s1 s2;dsimp only at aN bG HL HX aR c0 c1 c2 c3 c4 s0 s1 s2 cK cJ ⊢;rw[<-hC]at aR;subst cK cJ dJ dG;clear hc cI aA hL hx cL hC;have dA:=Aa cQ;clear cQ;go_enter Tryz.func29,Tryz.ntmps29
 go_upto_region 1 with fail
 have aW:(w.alloc (.cells #[.int .i64 cp,.int .i64 cm,.slice x3 aB.length y3,.int .i64 cn,.slice x1 aC.length y1] 39)).heap.size=B+1:=by simp[hB]
 try simp only[aW]
 try simp only[hB]
 clear hB aW;generalize (w.alloc (.cells #[.int .i64 cp,.int .i64 cm,.slice x3 aB.length y3,.int .i64 cn,.slice x1 aC.length y1] 39)).alloc (.cells #[.int .i64 dg,.slice la L.length lc,.slice ra xs.length rc] 53)=w1 at *;go_wp2_with fail
 refine aR.o.mono ?_;rintro e w2⟨⟨e0,cR,ho⟩,aA⟩;have bB:=Aa aA;have bM:=Aa cR;replace c0:=aA.cell c0;replace c1:=aA.cell c1;replace c2:=aA.cell c2;replace c3:=aA.cell c3;replace c4:=aA.cell c4;replace s0:=aA.cell s0;replace s1:=aA.cell s1;replace s2:=aA.cell s2;clear aA cR aR;obtain⟨OE,aM⟩:∃x,IE C e0=x:=⟨_,rfl⟩;rw[aM]at ho;have bL:=Aa aM;rcases ho with⟨h0,ptr,d,rfl⟩|⟨h0,pn,mn,N,b,x0,hp,hm,hn,hN1,hN64,hD,rfl,hg,hx1,aA⟩
 .have hb:(OE !=0)=true:=by simpa using h0
  have H0:=Aa h0;have aP:=Aa (fun o=>aN.o.trans (bB.o.trans (AH w2 o)));clear h0 aM;go_wp2_with fail
  exact bodyPost_ret (v:= .tuple #[.slice none 0 0,.int .i64 OE]) (by simp[results,Tryz.results29,go_sem]) rfl ⟨aQ.o _ _ ⟨e0,bM.o,.inl ⟨by rw[bL.o];exact H0.o,by rw[bL.o]⟩⟩,aP.o _⟩
 .subst h0;have dX:=Aa (show e0=0 from by
   unfold IE at aM;split at aM
   .exact aM
   .omega)
  have dM:cn=(N:Int):=by have:=aO.o;rw[this]at hn;exact hn
  have dL:cp=(pn:Int):=by have:=aO.o;rw[this]at hp;exact hp
  have dN:cm=(mn:Int):=by have:=aO.o;rw[this]at hm;exact hm
  subst dM dL dN;obtain⟨cV,dC,dV,cX⟩:=Eq (show BL pn mn aB N aC 0 from by have h1:=bM.o;rw[aO.o,dX.o]at h1;exact h1) (show(ED C:Int)=((N*(pn^mn-1):Nat):Int) from by unfold ED;rw[hp,hm,hn];rfl) (show AD C=Ds N (pn^mn) from by unfold AD;rw[hp,hm,hn];rfl) (show(∀l∈L,∀r∈l.reps,Ga pn mn aB N aC r=true)↔VQ C L=true from by rw[Ps,aO.o];exact Iff.rfl);obtain⟨dB,aK,cF,HG,HN,bF,bY,dW,aD⟩:=Ty (show K7 C (C.p.toNat^C.m.toNat) L (AD C) xs=K7 ⟨pn,mn,aB,N,aC⟩ (pn^mn) L (Ds N (pn^mn)) xs from by rw[dV.o,aO.o];first|done|rfl) (show ¬Xp C dg L xs->∀(w':World),Xm C dg L xs (.returned (.tuple #[.slice none 0 0,.int .i64 13])) w' from fun h w'=>⟨e0,bM.o,.inr (.inl ⟨bL.o,h,rfl⟩)⟩) (show Xp C dg L xs->∀(w':World) (v:Value),IB w' v (IJ L)->Xm C dg L xs (.returned (.tuple #[v,.int .i64 0])) w' from fun h w' v hv=>⟨e0,bM.o,.inr (.inr ⟨bL.o,h,v,rfl,hv⟩)⟩) (show Bf w2 b pn mn aB x0 from by have h:=hg;rw[aO.o]at h;exact h) (show 1<=N/\N<=64/\N*(pn^mn-1)<=64 from⟨hN1,hN64,hD⟩) (bG.o.ex bB.o) (HL.o.ex bB.o) (HX.o.ex bB.o) (AH w2 (.cells #[.pointer (some ⟨b,0,none⟩)] 97));have g0:(w2.alloc (.cells #[.pointer (some ⟨b,0,none⟩)] 97)).cell? ⟨w2.heap.size,0,none⟩=some (.pointer (some ⟨b,0,none⟩)):=by simp
  obtain⟨GB,bU⟩:∃x,w2.heap.size=x:=⟨_,rfl⟩;rw[bU]at g0;obtain⟨D,bV⟩:=nA (N*(pn^mn-1));have cA:=Aa bV;rw[bV];clear hp hm hn hN1 hN64 hD hg hx1 aA aM bV bG HL HX;go_upto_region 2 with fail
  try simp only[bU]
  clear bU;generalize w2.alloc (.cells #[.pointer (some ⟨b,0,none⟩)] 97)=w3 at *;replace c0:=aD.o.cell c0;replace c1:=aD.o.cell c1;replace c2:=aD.o.cell c2;replace c3:=aD.o.cell c3;replace c4:=aD.o.cell c4;replace s0:=aD.o.cell s0;replace s1:=aD.o.cell s1;replace s2:=aD.o.cell s2;have aJ:=Aa (aN.o.trans (bB.o.trans aD.o));have cZ:=Aa (bY.o.ex aD.o);have cB:=Aa (fun (w5:World) (h5:Ex w3 w5)=>(⟨h5.cell c0,h5.cell c1,h5.cell c2,h5.cell c3,h5.cell c4,h5.cell s0,h5.cell s1,h5.cell s2,h5.cell g0⟩:w5.cell? ⟨B,0,none⟩=some (.int .i64 pn)/\w5.cell? ⟨B,1,none⟩=some (.int .i64 mn)/\w5.cell? ⟨B,2,none⟩=some (.slice x3 aB.length y3)/\w5.cell? ⟨B,3,none⟩=some (.int .i64 N)/\w5.cell? ⟨B,4,none⟩=some (.slice x1 aC.length y1)/\w5.cell? ⟨B+1,0,none⟩=some (.int .i64 dg)/\w5.cell? ⟨B+1,1,none⟩=some (.slice la L.length lc)/\w5.cell? ⟨B+1,2,none⟩=some (.slice ra xs.length rc)/\w5.cell? ⟨GB,0,none⟩=some (.pointer (some ⟨b,0,none⟩))));have bN:=Aa (EL w3 dg L _ cZ.o dA.o);obtain⟨KK,bT⟩:∃x,Be dg L=x:=⟨_,rfl⟩;rw[bT]at bN;have bD:=Aa bT;clear bT;by_cases hk:KK=0
  rotate_left
  .have hb:(KK !=0)=true:=by simpa using hk
   have HR:=Aa (aK.o fun h=>hk (bD.o.symm.trans h.1));clear hk;go_wp2_with fail
   refine bN.o.mono ?_;rintro e w5⟨rfl,aG⟩;have aH:=Aa (aJ.o.trans aG);clear aG c0 c1 c2 c3 c4 s0 s1 s2 g0;exact zbz
  .subst hk;by_cases hdg:dg=(D:Int)
   rotate_left
   .have hb:(dg !=(D:Int))=true:=by simpa using hdg
    have HR:=Aa (aK.o fun h=>hdg (h.2.1.trans (by rw[dC.o,cA.o])));clear hdg;go_wp2_with fail
    refine bN.o.mono ?_;rintro e w5⟨rfl,aG⟩;have aH:=Aa (aJ.o.trans aG);replace s0:=aG.cell s0;clear aG c0 c1 c2 c3 c4 s1 s2 g0;exact zbz
   .subst hdg;have dS:=Aa (show ∀l∈L,∀r∈l.reps,r.length=N*(pn^mn-1)/\∀x∈r,0<=x/\x<(r.length:Int) from fun l hl r hr=>by
     have h1:Be (D:Int) L=0:=bD.o;unfold Be at h1;split at h1
     .cases h1
     .split at h1
      .rename_i h2 h3;obtain⟨N',h4,-,-,S,h5,h6⟩:=JW h3.1;have h7:r∈AT L:=by unfold AT;exact List.mem_flatMap.2 ⟨l,hl,hr⟩
       rw[h5]at h7;obtain⟨f,hf,rfl⟩:=List.mem_map.1 h7;have h8:(li N' f).length=N':=Co _ _;refine⟨by rw[h8,cA.o];omega,fun x hx=>?_⟩;rw[h8];obtain⟨i,hi⟩:=List.mem_iff_getElem?.1 hx;have h9:i<N':=by have:=(List.getElem?_eq_some_iff.1 hi).1;rw[h8]at this;exact this
       rw[Di h9]at hi;injection hi with hi;have:=(h6 f hf).lt i h9;omega
      .cases h1)
    go_upto_region 6 with (go_at_call 70;refine bN.o.mono ?_;rintro e w5⟨rfl,aG⟩;have aH:=Aa aG;replace s0:=aG.cell s0;clear aG)
    clear c0 c1 c2 c3 c4 s0 s1 s2 g0;obtain⟨LL,bH⟩:∃n,L.length=n:=⟨_,rfl⟩;have bC:=Aa bH;obtain⟨la2,lc2,cM,dE,dD,cG⟩:=(cZ.o.ex aH.o).open3;have dK:la=la2:=by injection cM
    subst dK;have Z3:=Aa (show 0<LL->_ from fun h=>cG (by rw[bH];exact h));have dT:=Aa (show LL<=1048576 from by
     have h1:Be (D:Int) L=0:=bD.o;obtain⟨n,e1,h2,h3,S,h4,h5,h6⟩:=JZ h1;rw[<-bH,h6,List.length_map];unfold DC;exact Nat.le_trans (List.length_filter_le _ _) (by rw[List.length_range];omega))
    obtain⟨c0,c1,c2,c3,c4,s0,s1,s2,g0⟩:=cB.o w5 aH.o;have H0:=Aa (show ∀l∈L.take 0,∀r∈l.reps,Ga pn mn aB N aC r=true from fun l hl=>by simp at hl);clear cM dE dD cG bH;go_upto_region 7 with fail
    simp only[bC.o];clear c0 c1 c2 c3 c4 s0 s1 s2 g0
    go_loopw [35] (fun k' wr=>∃k:Nat,k<=LL/\k'= .int .i64 k/\Hia (Ex w5 wr)/\Hia (∀l∈L.take k,∀r∈l.reps,Ga pn mn aB N aC r=true)) (fun k' _=>LL-(intOf k').toNat)
    case atStart=>exact⟨0,ac,rfl,Aa (Ex.refl _),H0⟩
    case round=>
     clear H0;obtain⟨k,hk,rfl,aF,aI⟩:=hrel;by_cases hkl:k<LL
     .obtain⟨eb,eo,rfl,cS⟩:=Z3.o ac;obtain⟨l,hl⟩:∃l,L[k]?=some l:=⟨_,List.getElem?_eq_getElem (by rw[bC.o];exact hkl)⟩;obtain⟨ou,orr,d0,d1,d2,k4,k5⟩:=cS k l hl;obtain⟨oa,oc,rfl,-,-,-⟩:=k4.open;clear k4;replace d0:=aF.o.cell d0;replace d1:=aF.o.cell d1;replace d2:=aF.o.cell d2;obtain⟨cY,dU,bZ,dR⟩:=Eq (List.mem_of_getElem? hl) hl hkl (k5.ex aF.o);obtain⟨qa,qc,rfl,-,-,-⟩:=k5.open;have i1:(0:Int)<=(k:Int):=by omega
      have i2:(k:Int)<(LL:Int):=ac;have hk64:k<=1048576:=by have:=dT.o;omega
      have bI:=Aa aF.o;have cE:=Aa aI.o;clear cS hl hkl k5 aF aI;go_upto_region 9 with fail
      have bx:∀x:Nat,wr.heap.size=x->(wr.alloc (.cells #[.int .i64 l.pt,.slice oa l.orb.length oc,.slice qa l.reps.length qc] 90)).cell? ⟨x,2,none⟩=some (.slice qa l.reps.length qc):=fun x h=>by subst h;simp
      obtain⟨XB,bS⟩:∃x,wr.heap.size=x:=⟨_,rfl⟩;have x2':=bx XB bS;have bK:=Aa (AH wr (.cells #[.int .i64 l.pt,.slice oa l.orb.length oc,.slice qa l.reps.length qc] 90))
      try simp only[bS]
      clear bS d0 d1 d2 i1 i2 bx;generalize wr.alloc (.cells #[.int .i64 l.pt,.slice oa l.orb.length oc,.slice qa l.reps.length qc] 90)=w6 at *;have bA:=Aa (aH.o.trans (bI.o.trans bK.o));obtain⟨pr,cN⟩:∃pr:Nat->Bool,∀(j:Nat) (r:List Int),l.reps[j]?=some r->pr j=!Ga pn mn aB N aC r:=⟨fun j=>match l.reps[j]? with|some r=> !Ga pn mn aB N aC r|none=>false,fun j r h=>by simp[h]⟩;have bX:=Aa cN;obtain⟨vals,bP,cH⟩:=dR.o.ex bK.o;have cC:=Aa (Jk w6 (.pointer (some ⟨GB,0,none⟩)) (.pointer (some ⟨B,0,none⟩)) (.slice qa l.reps.length qc) l.reps.length vals bP pr (fun w7 i u h7 hu=>by
       have hil:i<l.reps.length:=by
        have h1:=(List.getElem?_eq_some_iff.1 hu).1;have h2:=bP.1;omega
       have bQ:l.reps[i]?=some (l.reps[i]'hil):=List.getElem?_eq_getElem _;rw[bX.o i _ bQ];obtain⟨c0,c1,c2,c3,c4,-,-,-,g0⟩:=cB.o w7 (bA.o.trans h7);obtain⟨dI,dH⟩:=dS.o l cY.o _ (List.mem_of_getElem? bQ);have aU:=aD.o.trans (bA.o.trans h7);exact Zs w7 (HG.o.ex aU) HN.o.1 HN.o.2.1 HN.o.2.2 cV.o _ _ (bF.o.ex aU) _ u ((cH i _ u bQ hu).ex h7) dI dH GB B g0 c0 c1 c2 c3 c4))
      obtain⟨AN,bW⟩:∃x,(List.range l.reps.length).any pr=x:=⟨_,rfl⟩;rw[bW]at cC;have bO:=Aa bW;clear cN bW bP cH;have aX:AN=true->¬(∀r∈l.reps,Ga pn mn aB N aC r=true):=fun h dO=>by
       rw[h]at bO;obtain⟨j,hj,hp⟩:=List.any_eq_true.1 bO.o;have cP:=List.mem_range.1 hj;rw[bX.o j _ (List.getElem?_eq_getElem cP),dO _ (List.getElem_mem cP)]at hp;cases hp
      have aL:AN=false->∀r∈l.reps,Ga pn mn aB N aC r=true:=fun h r hr=>by
       rw[h]at bO;obtain⟨j,hj,rfl⟩:=List.getElem_of_mem hr;have h1:=List.any_eq_false.1 bO.o j (List.mem_range.2 hj);rw[bX.o j _ (List.getElem?_eq_getElem hj)]at h1;simpa using h1
      have cD:=Aa aX;have bE:=Aa aL;clear aX aL
      cases AN with
      | true=>
       have HR:=Aa (aK.o fun h=>cD.o rfl (cX.o.2 h.2.2.1 l cY.o));go_wp2_with (go_at_call 71;refine cC.o.mono ?_;rintro e w8⟨rfl,aT⟩;have bJ:=Aa (bI.o.trans (bK.o.trans aT));clear aT)
       have aP:=Aa (aJ.o.trans (aH.o.trans bJ.o));exact zbE
      | false=>
       have cW:=Aa (show ∀l∈L.take (k+1),∀r∈l.reps,Ga pn mn aB N aC r=true from fun l' cO r hr=>by
        rw[List.take_add_one,dU.o]at cO;rcases List.mem_append.1 cO with h|h
        .exact cE.o l' h r hr
        .simp at h;subst h;exact bE.o rfl r hr)
       go_wp2_with (go_at_call 71;refine cC.o.mono ?_;rintro e w8⟨rfl,aT⟩;have bJ:=Aa (bI.o.trans (bK.o.trans aT));clear aT)
       go_roundw
       case rel=>first|exact⟨k+1,by have:=bZ.o;omega,by go_num,bJ,cW⟩|((repeat apply Exists.intro);exact⟨⟨k+1,by have:=bZ.o;omega,by go_num,bJ,cW⟩,rfl⟩)
       case measure=>have:=bZ.o;simp[intOf];omega
     .obtain rfl:LL=k:=by omega
      obtain⟨HM,bI,aZ,aE⟩:=Eq (cX.o.1 (by have h:=aI.o;rwa[List.take_of_length_le (by rw[bC.o];exact Nat.le_refl _)]at h)) aF.o (aH.o.trans aF.o) (aD.o.trans (aH.o.trans aF.o));clear aF aI hkl;obtain⟨c0,c1,c2,c3,c4,s0,s1,s2,g0⟩:=cB.o wr aZ.o;have aY:=Aa (N7 wr (HG.o.ex aE.o) HN.o.1 HN.o.2.1 HN.o.2.2 cV.o _ _ (bF.o.ex aE.o) (D:Int) L _ (bY.o.ex aE.o) xs _ (dW.o.ex aE.o));unfold AR.arg at aY;dsimp only at aY;obtain⟨XK,bR⟩:∃x,K7 ⟨pn,mn,aB,N,aC⟩ (pn^mn) L (Ds N (pn^mn)) xs=x:=⟨_,rfl⟩;rw[bR]at aY;rw[bC.o]at aY s1;have cT:=Aa bR;clear bR;go_wp2_with fail
      refine aY.o.mono ?_;rintro e w9⟨rfl,aS⟩;have dQ:=Aa aS;replace s0:=aS.cell s0;replace s1:=aS.cell s1;have aP:=Aa (aJ.o.trans (aZ.o.trans aS));clear aS c0 c1 c2 c3 c4 s2 g0
      cases XK with
      | false=>
       have HR:=Aa (aK.o fun h=>by have h1:=h.2.2.2;rw[dB.o,cT.o]at h1;cases h1);go_wp2_with fail
       exact zbE
      | true=>
       have HA:=Aa (cF.o ⟨bD.o,by rw[dC.o,cA.o],HM.o,by rw[dB.o,cT.o]⟩);have cU:=Aa (Qo w9 (D:Int) L _ (bY.o.ex (aE.o.trans dQ.o)) dA.o);rw[bC.o]at cU;go_wp2_with fail
       refine cU.o.mono ?_;rintro e w10⟨dF,aV⟩;rcases dF with⟨h1,-⟩|⟨-,v,rfl,hv⟩
       .exact absurd bD.o h1
       .have HV:=Aa hv;have dP:=Aa (aP.o.trans aV);clear hv aV s0 s1;go_wp2_with fail
        exact bodyPost_ret (v:= .tuple #[v,.int .i64 0]) (by simp[results,Tryz.results29,go_sem]) rfl ⟨aQ.o _ _ (HA.o _ _ HV.o),dP.o⟩
section
variable {n:Nat} {T gens:List (List Int)}
def tabA(T:List (List Int))(i:Nat):Nat->Nat:=CG (T.getD i [])
theorem Ws(hg:∀f,Gn (gens.map CG) f↔∃r∈T,CG r=f)(hl:∀r∈T,BN r=0/\r.length=n)(hs:∀a,a<T.length->∀b,b<T.length->a<b->Gk (T.getD a []) (T.getD b [])=true):Oy n T.length (gens.map CG) (tabA T):=by
 have hm:∀i,i<T.length->T.getD i []∈T:=fun i hi=>by
  rw[List.getD_eq_getElem?_getD,List.getElem?_eq_getElem hi];exact List.getElem_mem hi
 refine⟨fun f=>?_,fun a b aA hb=>?_⟩
 .rw[hg];constructor
  .rintro⟨r,hr,rfl⟩;obtain⟨i,hi,e⟩:=List.getElem_of_mem hr;exact⟨i,hi,by unfold tabA;rw[List.getD_eq_getElem?_getD,List.getElem?_eq_getElem hi];exact congrArg CG e⟩
  .rintro⟨i,hi,rfl⟩;exact⟨T.getD i [],hm i hi,rfl⟩
 .have ha:a<T.length:=by omega
  have e1:=NJ (hl _ (hm a ha)).1;have e2:=NJ (hl _ (hm b hb)).1;rw[(hl _ (hm a ha)).2]at e1;rw[(hl _ (hm b hb)).2]at e2;refine VW.1 ?_;show Gk (li n (CG (T.getD a []))) (li n (CG (T.getD b [])))=true
  rw[e1,e2];exact hs a ha b hb aA
theorem SN(h:∀r∈gens,BN r=0/\r.length=n):∀s∈gens.map CG,Bd n s:=fun s hs=>by
 obtain⟨r,hr,rfl⟩:=List.mem_map.1 hs;have:=NR (h r hr).1
 rwa[(h r hr).2]at this
theorem Tn{C:List Lv}(hg:∀f,Gn (gens.map CG) f↔∃r∈T,CG r=f)(hl:∀r∈T,BN r=0/\r.length=n)(hs:∀a,a<T.length->∀b,b<T.length->a<b->Gk (T.getD a []) (T.getD b [])=true)(h2:∀r∈gens,BN r=0/\r.length=n)(hk:El n gens=0)(hc:chnA n T.length (tabA T) n=C):Da n gens=(⟨n,C⟩,0):=by
 unfold Da;rw[hk,if_neg ag];show(Chn.mk n (Ce n (gens.map CG) n),(0:Int))=_
 rw[Zq (Ws hg hl hs) (SN h2),hc]
theorem Ti{C:List Lv}(h2:∀r∈gens,BN r=0/\r.length=n)(h1:1<=n)(aA:n<=64)(hk:El n gens=0)(h:Da n gens=(⟨n,C⟩,0)):Be n C=0:=by
 have h3:=Tj (n:=n) h1 aA (SN h2) (HJ n (gens.map CG));unfold Da at h;rw[hk,if_neg ag]at h;injection h with h _;injection h with _ h;rw[<-h];show Be n (Ce n (gens.map CG) n)=0
 rw[Fx];exact h3
open Classical in
theorem Yu {O:List (List Int)} (hg:∀f,Gn (gens.map CG) f↔∃r∈T,CG r=f) (hk:El n gens=0) (hO:((List.range n).filter fun i=>T.all (fun r=>decide (i<=CG r i))).map (fun i=>((List.range n).filter fun y=>T.any (fun r=>CG r i==y)).map fun (y:Nat)=>(y:Int))=O):Ig n gens=(O,0):=by
 have hr:∀ {i y:Nat},Eb (gens.map CG) i y↔T.any (fun r=>CG r i==y)=true:=fun {i y}=>by
  rw[List.any_eq_true];constructor
  .rintro⟨f,hf,e⟩;obtain⟨r,hr,rfl⟩:=(hg f).1 hf;exact⟨r,hr,by simpa using e⟩
  .rintro⟨r,hr,e⟩;exact⟨CG r,(hg _).2 ⟨r,hr,rfl⟩,by simpa using e⟩
 have hL:∀ {i:Nat},Ow (gens.map CG) i↔T.all (fun r=>decide (i<=CG r i))=true:=fun {i}=>by
  rw[List.all_eq_true];constructor
  .intro h r hr;exact decide_eq_true (h _ ⟨CG r,(hg _).2 ⟨r,hr,rfl⟩,rfl⟩)
  .rintro h y⟨f,hf,rfl⟩;obtain⟨r,hr,rfl⟩:=(hg f).1 hf;exact of_decide_eq_true (h r hr)
 have h2:∀i,Rd n (gens.map CG) i=((List.range n).filter fun y=>T.any (fun r=>CG r i==y)).map fun (y:Nat)=>(y:Int):=fun i=>by
  unfold Rd VA
  congr 1
  apply List.filter_congr;intro y _;rw[Bool.eq_iff_iff,decide_eq_true_eq];exact hr
 have h3:Dt n (gens.map CG) n=O:=by
  rw[<-hO];unfold Dt;rw[show Rd n (gens.map CG)=_ from funext h2]
  congr 1
  apply List.filter_congr;intro i _;rw[Bool.eq_iff_iff,decide_eq_true_eq];exact hL
 unfold Ig;rw[hk,if_neg ag];show(Dt n (gens.map CG) n,(0:Int))=_
 rw[h3]
end
def eT:AR:=⟨3,1, [],2, [[1,2]]⟩
theorem e31:FX 3 1 []:=⟨3,1,rfl,rfl,⟨ac,ac,ac,ae,rfl,by intro x hx;cases hx⟩,ae,(GN (p:=3) (m:=1) (ml:= []) ⟨ac,ac,ac,ae,rfl,by intro x hx;cases hx⟩ ae).2 (.inl rfl)⟩
theorem eT_pv:PV 3 1 1 2 (Ao [[1,2]]) [0] 1:=Vs ac ae rfl ae
theorem eT_cod{e:Int}(h:BL 3 1 [] 2 [[1,2]] e):e=0:=Qa (p:=3) (m:=1) (N:=2) e31 ak ak ak rfl eT_pv ac h
theorem eC_cod0:BL 2 1 [] 3 [[1,1,0]] 0:=
 .inr (.inr ⟨ak,ak,.inr ⟨ak,2,1,3, [0],Ao [[1,1,0]],rfl,rfl,rfl,e21,ak,La WP ac rfl,ak⟩⟩)
def cG:List (List Int):= [[0,1,2], [1,0,2], [0,1,2], [0,1,2]]
def cT:List (List Int):= [[0,1,2], [1,0,2]]
def cL:List Lv:= [⟨0, [0,1], [[0,1,2], [1,0,2]]⟩]
def tG:List (List Int):= [[0,1,2,3], [1,0,3,2], [2,3,0,1], [3,2,1,0], [0,1,2,3]]
def tT:List (List Int):= [[0,1,2,3], [1,0,3,2], [2,3,0,1], [3,2,1,0]]
def tL:List Lv:= [⟨0, [0,1,2,3], [[0,1,2,3], [1,0,3,2], [2,3,0,1], [3,2,1,0]]⟩]
theorem ZT:Xs 3 1 [] [1,0] [2,1] 0=0/\ptL 3 1 [] [1,0] [2,1] 0= [3,2,0,1]:=ak
theorem e_map:ZR 3 1 [] 2 [3,2,0,1]=0/\(mpM 3 1 [] 2 [3,2,0,1]).perm= [1,0]/\(mpM 3 1 [] 2 [3,2,0,1]).scale= [2,1]/\(mpM 3 1 [] 2 [3,2,0,1]).frob=0:=ak
theorem WR:JF eC 0=0:=ak
theorem eT_gr:JF eT 0=0:=ak
theorem WS:Ek 2 1 [] (CZ eC (AD eC))=cG:=ak
theorem WO:Ek 3 1 [] (CZ eT (AD eT))=tG:=ak
theorem eC_prm:Ph (CZ eC (AD eC))=cG:=ak
theorem So{c:AR}{G:List (List Int)}{p m:Nat}{ml:List Int}(h:Ek p m ml (CZ c (AD c))=G):(CZ c (AD c)).length=G.length:=by
 rw[<-h];unfold Ek;rw[List.length_map]
theorem RC:(CZ eC (AD eC)).length<=1000:=by rw[So WS];decide
theorem eT_len:(CZ eT (AD eT)).length<=1000:=by rw[So WO];decide
def mvB(N:Nat)(M:CN):Bool:=decide (M.perm.length=N)&&(decide (M.scale.length=N)&&BB M.perm N)
theorem VJ{N:Nat}{Ms:List CN}(h:Ms.all (mvB N)=true):∀M∈Ms,L9 N M:=fun M hM=>by
 have:=List.all_eq_true.1 h M hM;unfold mvB at this;simp only[Bool.and_eq_true,decide_eq_true_eq]at this;exact this
theorem ZV:∀M∈CZ eC (AD eC),L9 eC.n.toNat M:=VJ ak
theorem eT_mv:∀M∈CZ eT (AD eT),L9 eT.n.toNat M:=VJ ak
theorem ZZ(f:Nat->Nat):Gn (cG.map CG) f↔∃r∈cT,CG r=f:=MI (n:=3) [[], [1]] ae ae ac ac ae ae ae ae f
theorem tG_gn(f:Nat->Nat):Gn (tG.map CG) f↔∃r∈tT,CG r=f:=MI (n:=4) [[], [1], [2], [3]] ae ae ac ac ae ae ae ae f
theorem W7:Da 3 cG=(⟨3,cL⟩,0):=Tn (n:=3) ZZ ae ae ae ae ah
theorem UV:Da 4 tG=(⟨4,tL⟩,0):=Tn (n:=4) tG_gn ae ae ae ae ah
theorem cL_chk:Be 3 cL=0:=Ti (n:=3) (gens:=cG) ae ac ac ae W7
theorem tL_chk:Be 4 tL=0:=Ti (n:=4) (gens:=tG) ae ac ac ae UV
theorem tL_siz:IJ tL=4:=ae
theorem cL_siz:IJ cL=2:=ae
theorem cG_orb:Ig 3 cG=([[0,1], [2]],0):=Yu (n:=3) ZZ ae ak
def eX:List GQ:=I8 eC (Js eC (AD eC))
def exT(x:GQ):Int × Int:=(x.i,x.j)
theorem ZU:eX.map exT= [(0,2),(1,2)]:=ak
theorem eX_rf:∀g∈Js eC (AD eC),IT 0 (gF eC g)=0:=fun g hg=>by
 have h:(Js eC (AD eC)).all (fun g=>IT 0 (gF eC g)==0)=true:=ak;simpa using List.all_eq_true.1 h g hg
theorem N9:eX.length=2:=by have:=congrArg List.length ZU;rw[List.length_map]at this;exact this
theorem eN_len:(Js eC (AD eC)).length<=1000:=by
 have:=N9;unfold eX I8 at this;rw[List.length_map]at this;omega
theorem eX_exk:K7 eC 2 cL (AD eC) eX=true:=ak
theorem WQ{P:List Int}(h1:Up 2 1 [] 3 P=true)(h2:CW 2 1 [] 3 (Hj 2 1 3 P) (Hi 2 1 3 P) 0=0)(h3:Fd 2 1 [] (Hj 2 1 3 P) (Hi 2 1 3 P) 0 3 [[1,1,0]] 1= [[1,1,0]]):Ga 2 1 [] 3 [[1,1,0]] P=true:=by
 refine Pr.2 ⟨h1,h2, [0],Ao [[1,1,0]],?_,ak⟩;rw[show([[1,1,0]]:List (List Int)).length=1 from rfl,h3];exact La WP ac rfl
theorem zaR{P:Prop}(h:P:=by
 exact WQ (by decide +kernel) (by decide +kernel) (by decide +kernel)):P:=h
theorem cL_meb:VQ eC cL=true:=by
 rw[Ps];intro l hl r hr;simp only[cL,List.mem_singleton]at hl;subst hl;simp only[List.mem_cons,List.not_mem_nil,or_false]at hr;rcases hr with rfl|rfl
 .exact zaR
 .exact zaR
theorem cL_acc:Xp eC 3 cL eX:=⟨cL_chk,ak,cL_meb,eX_exk⟩
theorem eC_opE:IE eC 0=0:=ak
theorem RD:Ll eC=(⟨3,cL⟩,0):=by
 have h:Ll eC=Da 3 (Ek 2 1 [] (CZ eC (AD eC))):=rfl;rw[h,WS,W7]
theorem eC_cz:Xw eC 0=0:=by unfold Xw;rw[WR,if_neg ag,RD]
def Xo(P:Prop)(r:Ending):Prop:=∃b:Bool,r= .returned (.bool b)/\(b=true↔P)
theorem Gv{P:Prop}(h:¬P):Xo P (.returned (.bool false)):=⟨false,rfl,⟨fun h=>bi,fun k=>absurd k h⟩⟩
theorem Uz{P:Prop}(h:P):Xo P (.returned (.bool true)):=⟨true,rfl,⟨fun _=>h,fun _=>rfl⟩⟩
theorem YI{l k:Lv}(h1:l.pt=k.pt)(h2:l.orb=k.orb)(h3:l.reps=k.reps):l=k:=by
 cases l;cases k
 simp only at h1 h2 h3;rw[h1,h2,h3]
theorem bh{P:Prop}(h:P:=by first|exact HN.o|exact fun h=>HN.o h.2):P:=h
theorem QW(w:World)(d1 d2:Int)(L K:List Lv)(lv kv:Value)(hL:Er w lv L)(hK:Er w kv K):
  Calls Tryz.prog 26 #[.agg #[.int .i64 d1,lv],.agg #[.int .i64 d2,kv]] w fun r w'=>Xo (d1=d2/\L=K) r/\Ex w w':=by
 obtain⟨b0,b1,e0⟩:=BM w d1 lv;obtain⟨f0,f1,e1⟩:=BM (w.alloc (.cells #[.int .i64 d1,lv] 43)) d2 kv;have b0:=e1.cell b0;have b1:=e1.cell b1;have aS:(w.alloc (.cells #[.int .i64 d1,lv] 43)).heap.size=w.heap.size+1:=ag;rw[aS]at f0 f1;obtain⟨za,zc,rfl,z1,z2,z3⟩:=(hL.ex (e0.trans e1)).open3;obtain⟨ya,yc,rfl,y1,y2,y3⟩:=(hK.ex (e0.trans e1)).open3;unfold maxLen at z2 y2;have Z3:=Aa z3;have Y3:=Aa y3;have aG:=Aa (e0.trans e1);clear z3 y3 hL hK e0 e1 aS;by_cases hd:d1=d2
 .subst hd;have aZ:(d1 !=d1)=false:=by simp
  by_cases hlen:L.length=K.length
  .have aX:((L.length:Int) !=(K.length:Int))=false:=by simp;omega
   have aV:=Aa hlen;clear hlen;go_enter Tryz.func26,Tryz.ntmps26
   go_wp2_with fail
   obtain⟨q,hq⟩:=nA w.heap.size;rw[hq]at b0 b1 f0 f1
   try simp only[hq]
   clear hq;generalize (w.alloc (.cells #[.int .i64 d1,.slice za L.length zc] 43)).alloc (.cells #[.int .i64 d1,.slice ya K.length yc] 43)=w1 at *;have B1:=Aa b1;have F1:=Aa f1;clear b0 b1 f0 f1
   go_loopw [5] (fun j' wr=>∃(j:Nat),j<=L.length/\j'= .int .i64 j/\Hia (∀i,i<j->L[i]?=K[i]?)/\Hia (Ex w1 wr)) (fun j' _=>L.length-(intOf j').toNat)
   case atStart=>exact⟨0,ac,rfl,Aa (fun i h=>ac),Aa (Ex.refl _)⟩
   case round=>
    obtain⟨j,hj,rfl,aB,aA⟩:=hrel;have b1:=aA.o.cell B1.o;have f1:=aA.o.cell F1.o;by_cases hjl:j<L.length
    .obtain⟨l,hl⟩:∃l,L[j]?=some l:=⟨_,List.getElem?_eq_getElem hjl⟩;have aY:j<K.length:=by have:=aV.o;omega
     obtain⟨k,hk⟩:∃k,K[j]?=some k:=⟨_,List.getElem?_eq_getElem aY⟩;obtain⟨zb,zo,rfl,aQ⟩:=Z3.o ac;obtain⟨yb,yo,rfl,aR⟩:=Y3.o ac;obtain⟨u,r,c0,c1,c2,hu,hr⟩:=aQ j l hl;obtain⟨v,s,g0,g1,g2,hv,hs⟩:=aR j k hk;have c0:=aA.o.cell c0;have c1:=aA.o.cell c1;have c2:=aA.o.cell c2;have g0:=aA.o.cell g0;have g1:=aA.o.cell g1;have g2:=aA.o.cell g2;obtain⟨oa,oc,rfl,_,_,_⟩:=hu.open;obtain⟨ra,rc,rfl,_,_,_⟩:=hr.open;obtain⟨pa,pc,rfl,_,_,_⟩:=hv.open;obtain⟨sa,sc,rfl,_,_,_⟩:=hs.open;have i1:(0:Int)<=(j:Int):=br;have i2:(j:Int)<(L.length:Int):=ac;have i3:(j:Int)<(K.length:Int):=ac;obtain⟨p,hp⟩:=nA l.pt;rw[hp]at c0;obtain⟨t,ht⟩:=nA k.pt;rw[ht]at g0;obtain⟨HU,HR,HV,HS,aJ,aK,aT,aU⟩:=On (hu.ex aA.o) (hr.ex aA.o) (hv.ex aA.o) (hs.ex aA.o) hl hk hp ht;clear hl hk hp ht hu hr hv hs aQ aR;have bP:=fun o=>((Ex.refl wr).alloc o).cell b1;have bO:=fun o o2=>(((Ex.refl wr).alloc o).alloc o2).cell b1;have bH:=fun o=>((Ex.refl wr).alloc o).cell f1;have bG:=fun o o2=>(((Ex.refl wr).alloc o).alloc o2).cell f1;have bN:=fun o=>((Ex.refl wr).alloc o).cell c0;have bM:=fun o o2=>(((Ex.refl wr).alloc o).alloc o2).cell c0;have bL:=fun o=>((Ex.refl wr).alloc o).cell c1;have bK:=fun o o2=>(((Ex.refl wr).alloc o).alloc o2).cell c1;have bJ:=fun o=>((Ex.refl wr).alloc o).cell c2;have bI:=fun o o2=>(((Ex.refl wr).alloc o).alloc o2).cell c2;have bF:=fun o=>((Ex.refl wr).alloc o).cell g0;have bE:=fun o o2=>(((Ex.refl wr).alloc o).alloc o2).cell g0;have bD:=fun o=>((Ex.refl wr).alloc o).cell g1;have bC:=fun o o2=>(((Ex.refl wr).alloc o).alloc o2).cell g1;have bB:=fun o=>((Ex.refl wr).alloc o).cell g2;have bA:=fun o o2=>(((Ex.refl wr).alloc o).alloc o2).cell g2;go_upto_region 6 with fail
     go_cut [6,7] from 29 to 59 (fun s6 s7 wx=>∃B1 B2:Nat,s6= .pointer (some ⟨B1,0,none⟩)/\s7= .pointer (some ⟨B2,0,none⟩)/\Hia (wx.cell? ⟨B1,0,none⟩=some (.int .i64 p)/\wx.cell? ⟨B1,1,none⟩=some (.slice oa l.orb.length oc)/\wx.cell? ⟨B1,2,none⟩=some (.slice ra l.reps.length rc))/\Hia (wx.cell? ⟨B2,0,none⟩=some (.int .i64 t)/\wx.cell? ⟨B2,1,none⟩=some (.slice pa k.orb.length pc)/\wx.cell? ⟨B2,2,none⟩=some (.slice sa k.reps.length sc))/\Hia (Ex wr wx))
     case first=>
      go_region
      all_goals go_wp2_with fail
      all_goals go_meet
      all_goals exact⟨_,_,rfl,rfl,Aa ⟨ag,ag,ag⟩,Aa ⟨ag,ag,ag⟩,Aa (((Ex.refl wr).alloc _).alloc _).drew⟩
     case rest=>
      obtain⟨B1,B2,rfl,rfl,hA,hB,aC⟩:=hcut;clear b1 f1 c0 c1 c2 g0 g1 g2 bP bO bH bG bN bM bL bK bJ bI bF bE bD bC bB bA;obtain⟨a0,a1,a2⟩:=hA.o;obtain⟨g0,g1,g2⟩:=hB.o;have aO:=Aa (show(L[j]?≠K[j]?)->¬(L=K) from fun h e=>h cq);by_cases hpt:p=t
      .subst hpt;have aW:(p !=p)=false:=by simp
       have A2:=Aa a2;have G2:=Aa g2;have aF:=Dy wc l.orb k.orb _ _ (HU.o.ex aC.o) (HV.o.ex aC.o);by_cases DR:l.orb=k.orb
       .rw[decide_eq_true DR]at aF;have aL:=Aa aF;clear aF;by_cases hre:l.reps=k.reps
        .have HE:=Aa (show L[j]?=K[j]? from by
          rw[aJ.o,aK.o,YI (aT.o.trans aU.o.symm) DR hre])
         have aP:=Aa (show ∀i,i<j+1->L[i]?=K[i]? from fun i hi=>by
          by_cases e:i=j
          .subst e;exact HE.o
          .exact aB.o i ac)
         have aN:=Aa (decide_eq_true hre);clear DR hre aB;go_wp2_with (first|(go_at_call 19;refine aL.o.mono ?_;rintro e w6⟨rfl,n6,aE⟩;have X6:=(show Ex wc w6 from by rw[aE];exact(Ex.refl _).drewN n6);have a2:=X6.cell A2.o;have g2:=X6.cell G2.o;have aD:=Dx w6 l.reps k.reps _ _ ((HR.o.ex aC.o).ex X6) ((HS.o.ex aC.o).ex X6);rw[aN.o]at aD;have aD:=Aa aD;have aI:=Aa X6;clear aE X6)|(go_at_call 27;refine aD.o.mono ?_;rintro e w7⟨rfl,n7,aH⟩;have aM:=Aa (aI.o.trans (show Ex w6 w7 from by rw[aH];exact(Ex.refl w6).drewN n7));clear aH))
         go_roundw
         case rel=>exact⟨j+1,ac,by go_num,aP,Aa (aA.o.trans (aC.o.trans aM.o))⟩
         case measure=>simp[intOf];omega
        .have HN:=Aa (aO.o (by
          rw[aJ.o,aK.o];intro e;injection e with e;exact hre cq))
         have aN:=Aa (decide_eq_false hre);clear DR hre aB;go_wp2_with (first|(go_at_call 19;refine aL.o.mono ?_;rintro e w6⟨rfl,n6,aE⟩;have X6:=(show Ex wc w6 from by rw[aE];exact(Ex.refl _).drewN n6);have a2:=X6.cell A2.o;have g2:=X6.cell G2.o;have aD:=Dx w6 l.reps k.reps _ _ ((HR.o.ex aC.o).ex X6) ((HS.o.ex aC.o).ex X6);rw[aN.o]at aD;have aD:=Aa aD;have aI:=Aa X6;clear aE X6)|(go_at_call 27;refine aD.o.mono ?_;rintro e w7⟨rfl,n7,aH⟩;have aM:=Aa (aI.o.trans (show Ex w6 w7 from by rw[aH];exact(Ex.refl w6).drewN n7));clear aH))
         go_ret;exact⟨Gv bh,aG.o.trans (aA.o.trans (aC.o.trans aM.o))⟩
       .have HN:=Aa (aO.o (by
         rw[aJ.o,aK.o];intro e;injection e with e;exact DR cq))
        rw[decide_eq_false DR]at aF;have aL:=Aa aF;clear aF DR aB;go_wp2_with (go_at_call 19;refine aL.o.mono ?_;rintro e w6⟨rfl,n6,aE⟩;have aI:=Aa (show Ex wc w6 from by rw[aE];exact(Ex.refl _).drewN n6);clear aE)
        go_ret;exact⟨Gv bh,aG.o.trans (aA.o.trans (aC.o.trans aI.o))⟩
      .have aW:(p !=t)=true:=by simpa using hpt
       have HN:=Aa (aO.o (by
        rw[aJ.o,aK.o];intro e;injection e with e;have e1:=aT.o;have e2:=aU.o;exact hpt (by rw[<-e1,<-e2,e])))
       clear hpt;go_wp2_with fail
       go_ret;exact⟨Gv bh,aG.o.trans (aA.o.trans aC.o)⟩
    .obtain rfl:j=L.length:=by omega
     have HR:=Aa (show L=K from SH aV.o aB.o);go_wp2_with fail
     go_ret;exact⟨Uz (by first|exact HR.o|exact⟨trivial,HR.o⟩|exact⟨rfl,HR.o⟩),aG.o.trans aA.o⟩
  .have aX:((L.length:Int) !=(K.length:Int))=true:=by simp;omega
   have HN:=Aa (show ¬L=K from fun e=>hlen cq);clear hlen;go_enter Tryz.func26,Tryz.ntmps26
   go_wp2_with fail
   go_ret;exact⟨Gv bh,aG.o⟩
 .have aZ:(d1 !=d2)=true:=by simpa using hd
  have HN:=Aa (show ¬(d1=d2/\L=K) from fun ⟨e,_⟩=>hd e);clear hd;go_enter Tryz.func26,Tryz.ntmps26
  go_wp2_with fail
  go_ret;exact⟨Gv HN.o,aG.o⟩
theorem JU(w:World)(l:List Int)(cs:Array Value)(t:TypeId)(h:(An l).toArray=cs){B n:Nat}(hB:w.heap.size=B)(hn:l.length=n)(hl:l.length<=1000):Aj (w.alloc (.cells cs t)) (.slice (some ⟨B,0,none⟩) n n) l:=by
 subst hB hn;subst h;exact Wb w l t hl
theorem YF(w:World)(rows:List (List Int))(us:List Value)(cs:Array Value)(t:TypeId)(hc:us.toArray=cs)(hl:us.length=rows.length)(h:∀(i:Nat) (r:List Int) (u:Value),rows[i]?=some r->us[i]?=some u->Aj w u r){B n:Nat}(hB:w.heap.size=B)(hn:rows.length=n)(hl2:rows.length<=1000):
  BY (w.alloc (.cells cs t)) (.slice (some ⟨B,0,none⟩) n n) rows:=by
 subst hB hn hc;refine⟨us,⟨by rw[hl,Nat.mul_one],some ⟨w.heap.size,0,none⟩,rows.length,rfl,Nat.le_refl _,by unfold maxLen;omega,fun _=>⟨_,0,rfl,fun j u hu=>?_⟩⟩,fun i r u a b=>(h i r u a b).ex (AH _ _)⟩;rw[Nat.zero_add];simpa using hu
theorem ZP{w:World}{l1:List Int}{u1:Value}(h1:Aj w u1 l1):∀(i:Nat) (r:List Int) (u:Value), [l1][i]?=some r-> [u1][i]?=some u->Aj w u r:=fun i r u a b=>by
 match i,a,b with
 | 0,a,b=>simp at a b;subst a b;exact h1
 | i+1,a,b=>simp at a
theorem ZO{w:World}{l1 l2:List Int}{u1 u2:Value}(h1:Aj w u1 l1)(h2:Aj w u2 l2):∀(i:Nat) (r:List Int) (u:Value), [l1,l2][i]?=some r-> [u1,u2][i]?=some u->Aj w u r:=fun i r u a b=>by
 match i,a,b with
 | 0,a,b=>simp at a b;subst a b;exact h1
 | 1,a,b=>simp at a b;subst a b;exact h2
 | i+2,a,b=>simp at a
def Gz(w:World)(b:Nat)(vs:List Value):Prop:=∀i v,vs[i]?=some v->w.cell? ⟨b,i,none⟩=some v
theorem Gz.ex{w w':World}{b:Nat}{vs:List Value}(h:Gz w b vs)(hx:Ex w w'):Gz w' b vs:=fun i v a=>hx.cell (h i v a)
theorem k_pts(w:World)(pv sv:Value)(hp:Aj w pv [1,0])(hs:Aj w sv [2,1]):
  Calls Tryz.prog 15 #[.agg #[.int .i64 3,.int .i64 1,.slice none 0 0],.agg #[pv,sv,.int .i64 0]] w fun r w'=>∃a c,r= .returned (.tuple #[.slice a 4 c,.int .i64 0])/\Aj w' (.slice a 4 c) [3,2,0,1]/\Ex w w':=
 (Lu w 3 1 [] _ (A6 w) _ _ pv sv hp hs 0).mono fun r w' ⟨⟨v,h1,h2⟩,hx⟩=>by
  rw[ZT.1]at h1;rw[ZT.2]at h2;obtain⟨a,c,rfl,_⟩:=h2.open;exact⟨a,c,h1,h2,hx⟩
theorem YN(w:World)(pv:Value)(hp:Aj w pv [3,2,0,1]):
  Calls Tryz.prog 17 #[.agg #[.int .i64 3,.int .i64 1,.slice none 0 0],.int .i64 2,pv] w fun r w'=>∃a c b d,r= .returned (.tuple #[.agg #[.slice a 2 c,.slice b 2 d,.int .i64 0],.int .i64 0])/\Aj w' (.slice a 2 c) [1,0]/\Aj w' (.slice b 2 d) [2,1]/\Ex w w':=
 (ZF w 3 1 [] _ (A6 w) 2 ac _ pv hp).mono fun r w' ⟨⟨u,v,h1,hu,hv⟩,hx⟩=>by
  obtain⟨q1,q2,q3,q4⟩:=e_map;rw[q1,q4]at h1;rw[q2]at hu;rw[q3]at hv;obtain⟨a,c,rfl,_⟩:=hu.open;obtain⟨b,d,rfl,_⟩:=hv.open;exact⟨a,c,b,d,h1,hu,hv,hx⟩
theorem zcT{P:Prop}(h:P:=by
 rw[hb]at h3 h4;obtain⟨a,c,rfl,_⟩:=h4.open;exact⟨a,c,h3,h4,hx⟩):P:=h
theorem k_grp(w:World)(v1:Value)(h1:BY w v1 [[1,1,0]]):
  Calls Tryz.prog 22 #[.agg #[.int .i64 2,.int .i64 1,.slice none 0 0,.int .i64 3,v1]] w fun r w'=>∃a c,r= .returned (.tuple #[.agg #[.int .i64 3,.slice a 1 c],.int .i64 0])/\Er w' (.slice a 1 c) cL/\Ex w w':=
 (Gy w eC _ v1 ⟨A6 w,h1⟩ RC ZV).mono fun r w' ⟨⟨e0,ho,h⟩,hx⟩=>by
  obtain rfl:=Oa ho;rcases h with⟨h,_⟩|⟨_,v,h3,h4⟩
  .exact absurd WR h
  .have hb:Da (ED eC:Int) (Ek eC.p.toNat eC.m.toNat eC.ml (CZ eC (AD eC)))=(⟨3,cL⟩,0):=RD;exact zcT
theorem k_grpT(w:World)(v1:Value)(h1:BY w v1 [[1,2]]):
  Calls Tryz.prog 22 #[.agg #[.int .i64 3,.int .i64 1,.slice none 0 0,.int .i64 2,v1]] w fun r w'=>∃a c,r= .returned (.tuple #[.agg #[.int .i64 4,.slice a 1 c],.int .i64 0])/\Er w' (.slice a 1 c) tL/\Ex w w':=
 (Gy w eT _ v1 ⟨A6 w,h1⟩ eT_len eT_mv).mono fun r w' ⟨⟨e0,ho,h⟩,hx⟩=>by
  obtain rfl:=eT_cod ho;rcases h with⟨h,_⟩|⟨_,v,h3,h4⟩
  .exact absurd eT_gr h
  .have hb:Da (ED eT:Int) (Ek eT.p.toNat eT.m.toNat eT.ml (CZ eT (AD eT)))=(⟨4,tL⟩,0):=by
    have h:Da (ED eT:Int) (Ek eT.p.toNat eT.m.toNat eT.ml (CZ eT (AD eT)))=Da 4 (Ek 3 1 [] (CZ eT (AD eT))):=rfl;rw[h,WO,UV]
   exact zcT
theorem k_pos(w:World)(v1:Value)(h1:BY w v1 [[1,1,0]]):
  Calls Tryz.prog 24 #[.agg #[.int .i64 2,.int .i64 1,.slice none 0 0,.int .i64 3,v1]] w fun r w'=>∃a c,r= .returned (.tuple #[.slice a 2 c,.int .i64 0])/\BY w' (.slice a 2 c) [[0,1], [2]]/\Ex w w':=
 (L8 sortOK w eC _ v1 ⟨A6 w,h1⟩ RC).mono fun r w' ⟨⟨e0,ho,h⟩,hx⟩=>by
  obtain rfl:=Oa ho;rcases h with⟨h,_⟩|⟨_,v,h3,h4⟩
  .exact absurd WR h
  .have hb:Ig eC.n (Ph (CZ eC (AD eC)))=([[0,1], [2]],0):=by
    have h:Ig eC.n (Ph (CZ eC (AD eC)))=Ig 3 (Ph (CZ eC (AD eC))):=rfl;rw[h,eC_prm,cG_orb]
   exact zcT
theorem k_cer(w:World)(v1:Value)(h1:BY w v1 [[1,1,0]]):
  Calls Tryz.prog 32 #[.agg #[.int .i64 2,.int .i64 1,.slice none 0 0,.int .i64 3,v1]] w fun r w'=>∃a c b d,r= .returned (.tuple #[.agg #[.int .i64 3,.slice a 1 c,.slice b 2 d],.int .i64 0])/\Er w' (.slice a 1 c) cL/\LC w' (.slice b 2 d) eX/\Ex w w':=
 (Ml w eC _ v1 ⟨A6 w,h1⟩ RC eN_len ZV eX_rf).mono fun r w' ⟨⟨e0,ho,h⟩,hx⟩=>by
  obtain rfl:=Oa ho;rcases h with⟨h,_⟩|⟨_,v,v',h3,h4,h5⟩
  .exact absurd eC_cz h
  .rw[RD]at h3 h4;have h6:LC w' v' eX:=h5;obtain⟨a,c,rfl,_⟩:=h4.open;obtain⟨b,d,rfl,_⟩:=h6.open;rw[N9]at h3 h6;exact⟨a,c,b,d,h3,h4,h6,hx⟩
theorem YO(w:World)(v1 lv rv:Value)(h1:BY w v1 [[1,1,0]])(hl:Er w lv cL)(hr:LC w rv eX):
  Calls Tryz.prog 29 #[.agg #[.int .i64 2,.int .i64 1,.slice none 0 0,.int .i64 3,v1],.agg #[.int .i64 3,lv,rv]] w fun r w'=>∃a n c,r= .returned (.tuple #[.slice a n c,.int .i64 0])/\IB w' (.slice a n c) 2/\Ex w w':=
 (Qx w eC _ v1 ⟨A6 w,h1⟩ 3 cL lv hl ae eX rv hr).mono fun r w' ⟨⟨e0,ho,h⟩,hx⟩=>by
  obtain rfl:=Oa ho;rcases h with⟨h,_⟩|⟨_,h,_⟩|⟨_,_,v,h3,h4⟩
  .exact absurd eC_opE h
  .exact absurd cL_acc h
  .rw[cL_siz]at h4;have h5:=h4;obtain⟨n,f,g1,g2,g3⟩:=h4;obtain⟨a,c,rfl,_⟩:=NL.open g3;exact⟨a,_,c,h3,h5,hx⟩
theorem k_sizT(w:World)(v:Value)(hv:Er w v tL):Calls Tryz.prog 35 #[.agg #[.int .i64 4,v]] w fun r w'=>∃a n c,r= .returned (.tuple #[.slice a n c,.int .i64 0])/\IB w' (.slice a n c) 4/\Ex w w':=
 (Qo w 4 tL v hv ae).mono fun r w' ⟨h1,h3⟩=>by
  rcases h1 with h1|⟨_,u,h1,h2⟩
  .exact absurd tL_chk h1.1
  .rw[tL_siz]at h2;have h5:=h2;obtain⟨n,f,g1,g2,g3⟩:=h2;obtain⟨a,c,rfl,_⟩:=NL.open g3;exact⟨a,_,c,h1,h5,h3⟩
theorem PC(w:World)(v u:Value)(hv:Er w v cL)(hu:Er w u cL):Calls Tryz.prog 26 #[.agg #[.int .i64 3,v],.agg #[.int .i64 3,u]] w fun r w'=>r= .returned (.bool true)/\Ex w w':=
 (QW w 3 3 cL cL v u hv hu).mono fun r w' ⟨⟨b,h1,h2⟩,h3⟩=>by
  rw[h2.2 ⟨rfl,rfl⟩]at h1;exact⟨h1,h3⟩
theorem V9(w:World)(x:Nat)(hx:x<=64)(v u:Value)(hv:IB w v x)(hu:IB w u x):Calls Tryz.prog 50 #[v,u] w fun r w'=>r= .returned (.int .i64 0)/\Ex w w':=
 (Vq w x x v u hv hu (GD ac) (GD ac)).mono fun r w' ⟨⟨z,h1,h2⟩,h3⟩=>by
  rw[h2.2 rfl]at h1;exact⟨h1,by rw[h3];exact Ex.refl _⟩
theorem zcu{P:Prop}(h:P:=by
 rw[decide_eq_true rfl]at h1;exact⟨h1,by rw[h3];exact(Ex.refl w).drewN n⟩):P:=h
theorem k_ints(w:World)(v u:Value)(l:List Int)(hv:Aj w v l)(hu:Aj w u l):Calls Tryz.prog 19 #[v,u] w fun r w'=>r= .returned (.bool true)/\Ex w w':=
 (Dy w l l v u hv hu).mono fun r w' ⟨h1,n,h3⟩=>by
  exact zcu
theorem k_rows(w:World)(v u:Value)(l:List (List Int))(hv:BY w v l)(hu:BY w u l):Calls Tryz.prog 27 #[v,u] w fun r w'=>r= .returned (.bool true)/\Ex w w':=
 (Dx w l l v u hv hu).mono fun r w' ⟨h1,n,h3⟩=>by
  exact zcu
theorem k_map(w:World)(pl sl:List Int)(pv sv qv tv:Value)(hp:Aj w pv pl)(hs:Aj w sv sl)(hq:Aj w qv pl)(ht:Aj w tv sl):
  Calls Tryz.prog 20 #[.agg #[pv,sv,.int .i64 0],.agg #[qv,tv,.int .i64 0]] w fun r w'=>r= .returned (.bool true)/\Ex w w':=
 (Qp w pl sl pl sl pv sv qv tv hp hs hq ht 0 0).mono fun r w' ⟨h,hx⟩=>by
  rw[decide_eq_true ⟨rfl,rfl,rfl⟩]at h;exact⟨h,hx⟩
theorem Sw(w:World)(x:Nat)(hx1:1<=x)(hx2:x<=64):IB (w.alloc (.cells #[.int .u32 x] 91)) (.slice (some ⟨w.heap.size,0,none⟩) 1 1) x:=
 ⟨1,fun _=>x,⟨fun _ _=>by show x<4294967296;omega,fun _ _=>by show x≠0;omega⟩,by show 0+x*1=x;omega,NL.mk (Nat.le_refl _) ai fun _=>⟨_,0,rfl,fun j hj=>by
  obtain rfl:j=0:=ac;simp⟩⟩
theorem eX_at:(∃x,eX[0]?=some x/\x.i=0/\x.j=2)/\∃x,eX[1]?=some x/\x.i=1/\x.j=2:=by
 have h:=ZU;have hl:=N9;constructor
 .refine⟨eX[0]'ac,List.getElem?_eq_getElem _,?_⟩;have:=congrArg (fun l=>l[0]?) h;simp only[List.getElem?_map,List.getElem?_eq_getElem (show 0<eX.length by omega)]at this;simpa[exT]using this
 .refine⟨eX[1]'ac,List.getElem?_eq_getElem _,?_⟩;have:=congrArg (fun l=>l[1]?) h;simp only[List.getElem?_map,List.getElem?_eq_getElem (show 1<eX.length by omega)]at this;simpa[exT]using this
theorem esl_eX{w:World}{a:Option Addr}{c:Nat}(h:LC w (.slice a 2 c) eX):∃X o,a=some ⟨X,o,none⟩/\w.cell? ⟨X,o,none⟩=some (.int .i64 0)/\w.cell? ⟨X,o+1,none⟩=some (.int .i64 2)/\w.cell? ⟨X,o+4,none⟩=some (.int .i64 1)/\w.cell? ⟨X,o+4+1,none⟩=some (.int .i64 2):=by
 obtain⟨a',c',e,_,_,h3⟩:=h.open;injection e with e1 _ _;subst e1;obtain⟨X,o,rfl,h4⟩:=h3 (by rw[N9];omega);obtain⟨⟨x,x1,x2,x3⟩,⟨y,y1,y2,y3⟩⟩:=eX_at
 obtain⟨_,f1,f2,_⟩:=h4 0 x x1;obtain⟨_,g1,g2,_⟩:=h4 1 y y1;rw[x2]at f1;rw[x3]at f2;rw[y2]at g1;rw[y3]at g2;exact⟨X,o,rfl,f1,f2,g1,g2⟩
def wL:World->List Obj->World
 | w, []=>w
 | w,o :: l=>wL (w.alloc o) l
theorem Nf:∀(l:List Obj) {w W:World} {B:Nat},wL w l=W->w.heap.size=B->Ex w W/\∀(j:Nat) (o:Obj),l[j]?=some o->W.heap[B+j]?=some o
 | [],w,W,B,h,hB=>⟨h ▸ Ex.refl w,fun j o hj=>by simp at hj⟩
 | o :: l,w,W,B,h,hB=>by
  obtain⟨h1,h2⟩:=Nf l (w:=w.alloc o) h (B:=B+1) (by simp[hB]);refine⟨(AH w o).trans h1,fun j o' hj=>?_⟩
  cases j with
  | zero=>simp at hj;subst hj;exact JV h1 (DV hB)
  | succ j=>have:=h2 j o' (by simpa using hj);rwa[show B+(j+1)=B+1+j from ac]
theorem Tl{W:World}{b:Nat}{t:TypeId}{xs:List Value}(h:W.heap[b]?=some (.cells xs.toArray t)){j:Nat}{u:Value}(hu:xs[j]?=some u):W.cell? ⟨b,j,none⟩=some u:=by
 unfold World.cell?;simp[h];simpa using hu
theorem Jb{W:World}{b:Nat}{t:TypeId}{xs:List Value}(h:W.heap[b]?=some (.cells xs.toArray t)):Gz W b xs:=fun i v a=>Tl h a
theorem Ok{w:World}{B:Nat}(cs:Array Value)(t:TypeId)(hB:w.heap.size=B):Gz (w.alloc (.cells cs t)) B cs.toList:=Jb (t:=t) (DV hB)
theorem UY{W:World}{b:Nat}{t:TypeId}(xs:List Value){n size:Nat}(h:W.heap[b]?=some (.cells xs.toArray t))(hx:xs.length=n*size)(hn:n<=1000):Sl W (.slice (some ⟨b,0,none⟩) n n) n size xs:=
 ⟨hx,some ⟨b,0,none⟩,n,rfl,Nat.le_refl _,by unfold maxLen;omega,fun _=>⟨b,0,rfl,fun j u hu=>by rw[Nat.zero_add];exact Tl h hu⟩⟩
theorem Hk{W:World}{b:Nat}{t:TypeId}(l:List Int)(h:W.heap[b]?=some (.cells (An l).toArray t))(hl:l.length<=1000:=by decide):Aj W (.slice (some ⟨b,0,none⟩) l.length l.length) l:=UY _ h (by simp[An]) hl
theorem Ri{W:World}{b:Nat}{t:TypeId}(rows:List (List Int)){us:List Value}(h:W.heap[b]?=some (.cells us.toArray t))(hr:∀(i:Nat) (r:List Int) (u:Value),rows[i]?=some r->us[i]?=some u->Aj W u r)(hu:us.length=rows.length:=by rfl)(hl:rows.length<=1000:=by decide):BY W (.slice (some ⟨b,0,none⟩) rows.length rows.length) rows:=
 ⟨us,UY _ h ac hl,hr⟩
theorem lsl_of{W:World}{b:Nat}{t:TypeId}(l1:Lv){u1 r1:Value}(h:W.heap[b]?=some (.cells #[.int .i64 l1.pt,u1,r1] t))(h1:Aj W u1 l1.orb)(h2:BY W r1 l1.reps):Er W (.slice (some ⟨b,0,none⟩) 1 1) [l1]:=
 ⟨[(u1,r1)],rfl,UY _ h rfl ae,fun i l o a b=>by
  match i,a,b with
  | 0,a,b=>simp at a b;subst a b;exact⟨h1,h2⟩
  | i+1,a,b=>simp at a⟩
theorem Gz.o2{w:World}{b:Nat}{x y:Value}(h:Gz w b [x,y]):w.cell? ⟨b,0,none⟩=some x/\w.cell? ⟨b,1,none⟩=some y:=⟨h 0 _ rfl,h 1 _ rfl⟩
theorem Gz.o3{w:World}{b:Nat}{x y z:Value}(h:Gz w b [x,y,z]):w.cell? ⟨b,0,none⟩=some x/\w.cell? ⟨b,1,none⟩=some y/\w.cell? ⟨b,2,none⟩=some z:=⟨h 0 _ rfl,h 1 _ rfl,h 2 _ rfl⟩
theorem Gz.o5{w:World}{b:Nat}{x y z u v:Value}(h:Gz w b [x,y,z,u,v]):w.cell? ⟨b,0,none⟩=some x/\w.cell? ⟨b,1,none⟩=some y/\w.cell? ⟨b,2,none⟩=some z/\w.cell? ⟨b,3,none⟩=some u/\w.cell? ⟨b,4,none⟩=some v:=⟨h 0 _ rfl,h 1 _ rfl,h 2 _ rfl,h 3 _ rfl,h 4 _ rfl⟩
def Z4(w:World)(P:World->Prop):Prop:=∀w',Ex w w'->P w'
theorem L3{w w':World}{P:World->Prop}(h:Hia (Z4 w P))(hx:Ex w w'):Hia (Z4 w' P):=fun v hv=>h v (hx.trans hv)
theorem T7{w:World}{P Q:World->Prop}(h:Hia (Z4 w P))(hq:∀v,Ex w v->Q v):Hia (Z4 w fun v=>Q v/\P v):=fun v hv=>⟨hq v hv,h v hv⟩
theorem UH{w w':World}{P Q:World->Prop}(h:Hia (Z4 w P))(hx:Ex w w')(hq:∀v,Ex w' v->Q v):Hia (Z4 w' fun v=>Q v/\P v):=T7 (L3 h hx) hq
theorem at_{w:World}{P:World->Prop}(h:Hia (Z4 w P)):P w:=h w (Ex.refl w)
theorem UA(w:World):Calls Tryz.prog 13 #[] w fun r w'=>r= .returned (.bool true)/\Ex w w':=by
 have A:Hia (Z4 w fun v=>Ex w v):=fun v h=>h;go_enter Tryz.func13,Tryz.ntmps13
 go_upto_region 5 with fail
 generalize hW:World.alloc _ _=W;obtain⟨B,hB⟩:=nA w.heap.size;simp only[hB,Nat.add_assoc,Nat.reduceAdd]at hW ⊢;obtain⟨ew,H⟩:=Nf [_,_,_,_,_,_,_,_,_,_] hW hB;clear hW hB;have i1:=Hk [1,1,0] (H 1 _ rfl);have i2:=Ri [[1,1,0]] (H 2 _ rfl) (ZP i1);have i4:=Hk [1,2] (H 4 _ rfl);have i5:=Ri [[1,2]] (H 5 _ rfl) (ZP i4);have i7:=Hk [1,0] (H 7 _ rfl);have i8:=Hk [2,1] (H 8 _ rfl);replace A:=L3 A ew;replace A:=T7 A fun _ h=>i2.ex h;replace A:=T7 A fun _ h=>i5.ex h;replace A:=T7 A fun _ h=>i7.ex h;replace A:=T7 A fun _ h=>i8.ex h;replace A:=T7 A fun _ h=>(Jb (b:=B) (H 0 _ rfl)).ex h;replace A:=T7 A fun _ h=>(Jb (H 3 _ rfl)).ex h;replace A:=T7 A fun _ h=>(Jb (H 6 _ rfl)).ex h;replace A:=T7 A fun _ h=>(Jb (H 9 _ rfl)).ex h;clear ew H i1 i2 i4 i5 i7 i8;obtain⟨aS,aR,aQ⟩:=(at_ A).2.2.2.1.o3;obtain⟨aN,aM,aL⟩:=(at_ A).1.o3;go_wp2_with fail
 refine(k_pts _ _ _ (at_ A).2.2.2.2.2.1 (at_ A).2.2.2.2.1).mono ?_;rintro e w1⟨pa,pc,rfl,hp,bV⟩;clear aS aR aQ aN aM aL;replace A:=UH A bV fun _ h=>hp.ex h;clear bV hp;obtain⟨aS,aR,aQ⟩:=(at_ A).2.2.2.2.1.o3;go_wp2_with fail
 refine(YN _ _ (JU _ [3,2,0,1] _ _ rfl rfl rfl ae)).mono ?_;rintro e w2⟨ma,mc,sa,sc,rfl,hm,hs,aX⟩;replace aX:=(AH _ _).trans aX;clear aS aR aQ;replace A:=UH A aX fun _ h=>hm.ex h;replace A:=T7 A fun _ h=>hs.ex h;clear aX hm hs;obtain⟨C1,bB⟩:∃B,w2.heap.size=B:=⟨_,rfl⟩;replace A:=UH A (AH _ _) fun _ h=>(Ok #[.slice ma 2 mc,.slice sa 2 sc,.int .i64 0] 26 bB).ex h;go_upto_region 7 with fail
 try simp only[bB]
 clear bB;generalize World.alloc _ _=v2 at *;obtain⟨aE,aD,aC,aB,aA⟩:=(at_ A).2.2.2.2.2.2.1.o5;go_wp2_with fail
 refine(k_grp _ _ (at_ A).2.2.2.2.2.2.2.2.2.2.2.1).mono ?_;rintro e w3⟨ga,gc,rfl,hg,bU⟩;clear aE aD aC aB aA;replace A:=UH A bU fun _ h=>hg.ex h;clear bU hg;obtain⟨C2,bA⟩:∃B,w3.heap.size=B:=⟨_,rfl⟩;replace A:=UH A (AH _ _) fun _ h=>(Ok #[.int .i64 3,.slice ga 1 gc] 43 bA).ex h;go_upto_region 8 with fail
 try simp only[bA]
 clear bA;generalize World.alloc _ _=v3 at *;obtain⟨aE,aD,aC,aB,aA⟩:=(at_ A).2.2.2.2.2.2.2.2.1.o5;go_wp2_with fail
 refine(k_pos _ _ (at_ A).2.2.2.2.2.2.2.2.2.2.2.2.2.1).mono ?_;rintro e w4⟨oa,oc,rfl,ho,bT⟩;clear aE aD aC aB aA;replace A:=UH A bT fun _ h=>ho.ex h;clear bT ho;obtain⟨aE,aD,aC,aB,aA⟩:=(at_ A).2.2.2.2.2.2.2.2.2.1.o5;go_wp2_with fail
 refine(k_cer _ _ (at_ A).2.2.2.2.2.2.2.2.2.2.2.2.2.2.1).mono ?_;rintro e w5⟨ya,yc,yb,yd,rfl,hy,hz,bS⟩;clear aE aD aC aB aA;replace A:=UH A bS fun _ h=>hy.ex h;replace A:=T7 A fun _ h=>hz.ex h;clear bS hy hz;obtain⟨C3,aZ⟩:∃B,w5.heap.size=B:=⟨_,rfl⟩;replace A:=UH A (AH _ _) fun _ h=>(Ok #[.int .i64 3,.slice ya 1 yc,.slice yb 2 yd] 53 aZ).ex h;go_upto_region 10 with fail
 try simp only[aZ]
 clear aZ;generalize World.alloc _ _=v5 at *;obtain⟨aE,aD,aC,aB,aA⟩:=(at_ A).2.2.2.2.2.2.2.2.2.2.2.2.1.o5;obtain⟨aK,aJ,aI⟩:=(at_ A).1.o3;go_wp2_with fail
 refine(YO _ _ _ _ (at_ A).2.2.2.2.2.2.2.2.2.2.2.2.2.2.2.2.2.1 (at_ A).2.2.1 (at_ A).2.1).mono ?_;rintro e w6⟨na,nn,nc,rfl,hn,bR⟩;clear aE aD aC aB aA aK aJ aI;replace A:=UH A bR fun _ h=>hn.ex h;clear bR hn;obtain⟨bN,bM,bL,bK,bJ⟩:=(at_ A).2.2.2.2.2.2.2.2.2.2.2.2.1.o5;go_wp2_with fail
 refine(k_grpT _ _ (at_ A).2.2.2.2.2.2.2.2.2.2.2.2.2.2.2.2.2.1).mono ?_;rintro e w7⟨ta,tc,rfl,ht,bQ⟩;clear bN bM bL bK bJ;replace A:=UH A bQ fun _ h=>ht.ex h;clear bQ ht;obtain⟨C4,aY⟩:∃B,w7.heap.size=B:=⟨_,rfl⟩;replace A:=UH A (AH _ _) fun _ h=>(Ok #[.int .i64 4,.slice ta 1 tc] 43 aY).ex h;go_upto_region 12 with fail
 try simp only[aY]
 clear aY;generalize World.alloc _ _=v7 at *;obtain⟨bD,bC⟩:=(at_ A).1.o2;go_wp2_with fail
 refine(k_sizT _ _ (at_ A).2.1).mono ?_;rintro e w8⟨ua,un,uc,rfl,hu,bP⟩;clear bD bC;replace A:=UH A bP fun _ h=>hu.ex h;clear bP hu;go_upto_region 16 with fail
 generalize hV:World.alloc _ _=V;obtain⟨D,hD⟩:∃B,w8.heap.size=B:=⟨_,rfl⟩;simp only[hD,Nat.add_assoc,Nat.reduceAdd]at hV ⊢;obtain⟨ew,H⟩:=Nf [_,_,_,_,_,_] hV hD;clear hV hD;have i0:=Hk (b:=D) [0,1] (H 0 _ rfl);have i1:=Hk [0,1,2] (H 1 _ rfl);have i2:=Hk [1,0,2] (H 2 _ rfl);have i3:=Ri [[0,1,2], [1,0,2]] (H 3 _ rfl) (ZO i1 i2);have i4:Er V _ cL:=lsl_of ⟨0, [0,1], [[0,1,2], [1,0,2]]⟩ (H 4 _ rfl) i0 i3;replace A:=L3 A ew;replace A:=T7 A fun _ h=>i4.ex h;replace A:=T7 A fun _ h=>(Jb (H 5 _ rfl)).ex h;clear ew H i0 i1 i2 i3 i4;go_wp2_with fail
 refine(k_ints _ _ _ [3,2,0,1] ((at_ A).2.2.2.2.2.2.2.2.2.2.2.2.2.2.2.1.ex (AH _ _)) (JU _ [3,2,0,1] _ _ rfl rfl rfl ae)).mono ?_;rintro e w9⟨rfl,aW⟩;replace aW:=(AH _ _).trans aW;replace A:=L3 A aW;clear aW;obtain⟨bG,bF,bE⟩:=(at_ A).2.2.2.2.2.2.2.2.2.2.2.2.1.o3;obtain⟨aN,aM,aL⟩:=(at_ A).2.2.2.2.2.2.2.2.2.2.2.2.2.2.2.2.1.o3;go_wp2_with fail
 refine(k_map _ [1,0] [2,1] _ _ _ _ (at_ A).2.2.2.2.2.2.2.2.2.2.2.2.2.2.1 (at_ A).2.2.2.2.2.2.2.2.2.2.2.2.2.1 (at_ A).2.2.2.2.2.2.2.2.2.2.2.2.2.2.2.2.2.2.2.2.2.1 (at_ A).2.2.2.2.2.2.2.2.2.2.2.2.2.2.2.2.2.2.2.2.1).mono ?_;rintro e w10⟨rfl,aV⟩;clear bG bF bE aN aM aL;replace A:=L3 A aV;clear aV;obtain⟨bI,bH⟩:=(at_ A).2.2.2.2.2.2.2.2.2.2.1.o2;obtain⟨aP,aO⟩:=(at_ A).1.o2;go_wp2_with fail
 refine(PC _ _ _ (at_ A).2.2.2.2.2.2.2.2.2.2.2.1 (at_ A).2.1).mono ?_;rintro e w11⟨rfl,aU⟩;clear bI bH aP aO;replace A:=L3 A aU;clear aU;go_wp2_with fail
 have hz:=(JU w11 [0,1] #[.int .i64 0,.int .i64 1] 3 rfl rfl rfl ae).ex (AH _ (.cells #[.int .i64 2] 3));have bO:=JU (w11.alloc (.cells #[.int .i64 0,.int .i64 1] 3)) [2] #[.int .i64 2] 3 rfl (B:=w11.heap.size+1) ag rfl ae;have bW:((w11.alloc (.cells #[.int .i64 0,.int .i64 1] 3)).alloc (.cells #[.int .i64 2] 3)).heap.size=w11.heap.size+1+1:=by simp
 refine(k_rows _ _ _ [[0,1], [2]] ((at_ A).2.2.2.2.2.2.2.2.2.1.ex (((AH _ _).trans (AH _ _)).trans (AH _ _))) (YF _ [[0,1], [2]] [.slice (some ⟨w11.heap.size,0,none⟩) 2 2,.slice (some ⟨w11.heap.size+1,0,none⟩) 1 1] _ _ rfl rfl (ZO hz bO) bW rfl ae)).mono ?_;rintro e w12⟨rfl,aH⟩;replace aH:=(((AH _ _).trans (AH _ _)).trans (AH _ _)).trans aH;replace A:=L3 A aH;clear aH;clear hz bO bW;go_wp2_with fail
 refine(V9 _ 2 ac _ _ ((at_ A).2.2.2.2.2.1.ex (AH _ _)) (Sw _ 2 ac ac)).mono ?_;rintro e w13⟨rfl,aG⟩;replace aG:=(AH _ _).trans aG;replace A:=L3 A aG;clear aG;go_wp2_with fail
 refine(V9 _ 4 ac _ _ ((at_ A).2.2.1.ex (AH _ _)) (Sw _ 4 ac ac)).mono ?_;rintro e w14⟨rfl,aF⟩;replace aF:=(AH _ _).trans aF;replace A:=L3 A aF;clear aF;obtain⟨aK,aJ,aI⟩:=(at_ A).2.2.2.2.2.2.1.o3;obtain⟨aP,aO⟩:=(at_ A).1.o2;go_wp2_with fail
 refine(PC _ _ _ (at_ A).2.2.2.2.2.2.2.2.1 (at_ A).2.1).mono ?_;rintro e w15⟨rfl,aT⟩;clear aK aJ aI aP aO;replace A:=L3 A aT;clear aT;obtain⟨RX,ro,rfl,r0,r1,r2,r3⟩:=esl_eX (at_ A).2.2.2.2.2.2.2.1;obtain⟨aK,aJ,aI⟩:=(at_ A).2.2.2.2.2.2.1.o3;go_wp2_with fail
 go_ret;exact⟨rfl,(at_ A).2.2.2.2.2.2.2.2.2.2.2.2.2.2.2.2.2.2.2.2.2.2.2.2⟩
theorem zcl{P:Prop}(h:P:=by
 obtain⟨c0,c1,c2,c3,c4,b0,b1,b2⟩:=aA.o _ hx;exact zdn):P:=h
theorem zaH{P:Prop}(h:P:=by
 have e2:=T 2 _ rfl;exact zcl):P:=h
theorem za0{P:Prop}(h:P:=by
 have e2:=T 2 _ rfl;exact zdn):P:=h
theorem zdm{P:Prop}(h:P:=by
 rintro e w3⟨rfl,aB⟩;exact hK _ aB):P:=h
theorem FC(w:World)(c:AR)(m1 v1:Value)(hc:c.at w m1 v1)(pv sv:Value)(pl sl:List Int)(fr:Int)(hp:Aj w pv pl)(hs:Aj w sv sl):
  Calls Tryz.prog 8 #[c.arg m1 v1,.agg #[pv,sv,.int .i64 fr]] w fun r w'=>r= .returned (.bool true)/\Ex w w':=by
 obtain⟨c0,c1,c2,c3,c4⟩:=CH w c m1 v1;obtain⟨b0,b1,b2,e2⟩:=Bc (w.alloc (c.obj m1 v1)) pv sv fr;have bF:(w.alloc (c.obj m1 v1)).heap.size=w.heap.size+1:=ag;have e1:=AH w (c.obj m1 v1);rw[bF]at b0 b1 b2;replace c0:=e2.cell c0;replace c1:=e2.cell c1;replace c2:=e2.cell c2;replace c3:=e2.cell c3;replace c4:=e2.cell c4;have HX:=Aa (e1.trans e2);have cQ:=Aa (fun w'=>UA w');have cB:=Aa (fun (w':World) (h:Ex w w')=>Nu w' c m1 v1 (hc.ex h) 12 ac);obtain⟨E1,bP,bV⟩:=Zp hc;obtain⟨bB,dH,cE,cD,dC,cZ,dI,cY⟩:=On bP bV (fun (w':World) (h:Ex w w')=>Pd w' c.p c.m c.ml m1 (hc.ex h).m c.n pl sl pv sv (hp.ex h) (hs.ex h) fr) (fun w'=>DK c.p c.m m1 w') (fun (w':World) (h:Ex w w')=>Gy w' c m1 v1 (hc.ex h)) (fun (w':World) (h:Ex w w')=>Lu w' c.p c.m c.ml m1 (hc.ex h).m pl sl pv sv (hp.ex h) (hs.ex h) fr) (fun (w':World) (h:Ex w w')=>Nb w' c.p c.m c.ml m1 (hc.ex h).m c.n c.rows v1 (hc.ex h).g pl sl pv sv (hp.ex h) (hs.ex h) fr) (fun (w':World) (h:Ex w w') (y:AR) (m3 v3:Value) (hy:y.at w' m3 v3)=>Q4 w' c y m1 m3 v1 v3 (hc.ex h) hy);obtain⟨pa,pc,rfl,p1,p2,-⟩:=hp.open;obtain⟨sa,sc,rfl,s1,s2,-⟩:=hs.open;obtain⟨x1,y1,rfl,-,z1,-⟩:=hc.g.open;obtain⟨x3,y3,rfl,-,z3,-⟩:=hc.m.open;unfold maxLen at p2 s2 z1 z3;obtain⟨p,m,ml,n,rows⟩:=c;obtain⟨B,hB⟩:=nA w.heap.size;rw[hB]at c0 c1 c2 c3 c4 b0 b1 b2;dsimp only[AR.arg,AR.obj]at *;obtain⟨E2,aT⟩:∃E,CW p m ml n pl sl fr=E:=⟨_,rfl⟩;rw[aT]at cE;have dE:=Aa aT;obtain⟨SB,aN⟩:∃b,smB ⟨p,m,ml,n,rows⟩ 12=b:=⟨_,rfl⟩;rw[aN]at cB;have cC:=Aa (show SB=true->Smp ⟨p,m,ml,n,rows⟩ 12 from fun h=>(Sc.1 (aN.trans h)).2);obtain⟨Q,hQ⟩:=nA (CD p m);rw[hQ]at cD;have HQ:=Aa hQ;clear hc hp hs e1 e2 bF aT aN hQ bP bV p1 s1;go_enter Tryz.func8,Tryz.ntmps8
 go_upto_region 1 with fail
 try simp only[hB]
 clear hB;generalize (w.alloc (.cells #[.int .i64 p,.int .i64 m,.slice x3 ml.length y3,.int .i64 n,.slice x1 rows.length y1] 39)).alloc (.cells #[.slice pa pl.length pc,.slice sa sl.length sc,.int .i64 fr] 26)=w1 at *;have aA:=Aa (fun w' (h:Ex w1 w')=>(⟨h.cell c0,h.cell c1,h.cell c2,h.cell c3,h.cell c4,h.cell b0,h.cell b1,h.cell b2⟩:_/\_/\_/\_/\_/\_/\_/\_));have bZ:∀w',Ex w1 w'->Calls Tryz.prog 13 #[] w' fun r w''=>r= .returned (.bool true)/\Ex w1 w'':=fun w' h=>(cQ.o w').mono fun r w'' ⟨h1,h2⟩=>⟨h1,h.trans h2⟩;have dJ:=Aa bZ;clear bZ c0 c1 c2 c3 c4 b0 b1 b2;obtain⟨DD,HD⟩:=JP (n*(Q-1));obtain⟨j1,cO⟩:=JP (!SB);obtain⟨j2,cN⟩:=JP (E1 !=0);obtain⟨l2,cJ⟩:=JP (j1||j2);obtain⟨j3,cM⟩:=JP (E2 !=0);obtain⟨l3,cI⟩:=JP (l2||j3);obtain⟨j4,cL⟩:=JP (fr !=0);obtain⟨l4,cH⟩:=JP (l3||j4);obtain⟨j5,cK⟩:=JP (decide ((64:Int)<DD));obtain⟨l5,cG⟩:=JP (l4||j5);have bE:=Aa (show l4=false->SB=true/\E1=0/\E2=0/\fr=0 from fun h=>by
  rw[<-cH.o,<-cI.o,<-cJ.o,<-cL.o,<-cM.o,<-cN.o,<-cO.o]at h;simp only[Bool.or_eq_false_iff,Bool.not_eq_false',bne_eq_false_iff_eq]at h;obtain⟨⟨⟨h1,h2⟩,h3⟩,h4⟩:=h;exact⟨h1,h2,h3,h4⟩)
 have aZ:=Aa (show l4=false->∃(pn mn N q D:Nat),p=pn/\m=mn/\n=N/\pn^mn=q/\2<=q/\q<=256/\Q=q/\N*(q-1)=D/\DD=D/\D<=20000/\1<=N/\N<=64 from fun h=>by
  obtain⟨-,k2,-,-⟩:=bE.o h;have ho:=bB.o;rw[k2]at ho;obtain⟨pn,mn,N,rfl,rfl,rfl,hf,hI,bX,aO,hr,hro⟩:=Iu ho;have aL:=HQ.o;rw[Pk hf]at aL;have bN:2<=pn^mn:=Nat.le_trans hf.p2 (Nat.le_self_pow (by have:=hf.m1;omega) pn);have cR:=hf.q;refine⟨pn,mn,N,_,_,rfl,rfl,rfl,rfl,bN,cR,aL.symm,rfl,?_,Nat.le_trans (Nat.mul_le_mul aO (show pn^mn-1<=255 by omega)) ac,bX,aO⟩;rw[<-HD.o,<-aL,Int.natCast_mul,Int.natCast_sub ac];rfl)
 have HW:=Aa (show l4=false->IntKind.i64.wrap (Q-1)=Q-1/\IntKind.i64.wrap (n*(Q-1))=DD from fun h=>by
  obtain⟨pn,mn,N,q,D,-,-,-,-,k1,k2,k3,-,k5,k6,-⟩:=aZ.o h;rw[HD.o];exact⟨IntWalk.i64_in _ ac,IntWalk.i64_in _ ac⟩)
 refine BJ (fun k=>([.bool true,.bool false,.bool false,.agg #[.int .i64 p,.int .i64 m,.slice x3 ml.length y3,.int .i64 n,.slice x1 rows.length y1],.bool SB,.bool j1,.bool j1,.bool j1,bif j1 then undef else .agg #[.int .i64 p,.int .i64 m,.slice x3 ml.length y3,.int .i64 n,.slice x1 rows.length y1],bif j1 then undef else .int .i64 E1,bif j1 then undef else .bool j2,.bool l2,.bool l2,bif l2 then undef else .pointer (some ⟨B,0,none⟩),bif l2 then undef else .agg #[.int .i64 p,.int .i64 m,.slice x3 ml.length y3],bif l2 then undef else .pointer (some ⟨B,3,none⟩),bif l2 then undef else .int .i64 n,bif l2 then undef else .agg #[.slice pa pl.length pc,.slice sa sl.length sc,.int .i64 fr],bif l2 then undef else .int .i64 E2,bif l2 then undef else .bool j3,.bool l3,.bool l3,bif l3 then undef else .pointer (some ⟨B+1,2,none⟩),bif l3 then undef else .int .i64 fr,bif l3 then undef else .bool j4,.bool l4,.bool l4,bif l4 then undef else .pointer (some ⟨B,3,none⟩),bif l4 then undef else .int .i64 n,bif l4 then undef else .pointer (some ⟨B,0,none⟩),bif l4 then undef else .agg #[.int .i64 p,.int .i64 m,.slice x3 ml.length y3],bif l4 then undef else .int .i64 Q,bif l4 then undef else .int .i64 (Q-1),bif l4 then undef else .int .i64 DD,bif l4 then undef else .bool j5,.bool l5]:List Value).getD k undef) ah ah ah ?_ ?_
 .simp only[AF];refine⟨?_,?_,?_,?_,?_,?_,?_,?_,?_,?_,?_,?_,?_,?_,?_,?_,?_,?_,?_,?_,?_,?_,?_,?_,?_,?_,?_,?_,?_,?_,?_,?_,?_,?_,?_,?_,trivial⟩
  all_goals first|refine Bu.go rfl fun a w T hx K hK=>?_|(refine Bu.gd j1 ?_;rintro rfl a w T hx K hK)|(refine Bu.gd l2 ?_;rintro rfl a w T hx K hK)|(refine Bu.gd l3 ?_;rintro rfl a w T hx K hK)|(refine Bu.gd l4 ?_;rintro rfl a w T hx K hK)
  .clear T;go_simp;refine(cQ.o _).mono ?_;exact zdm
  .have e13:=T 13 _ rfl;exact zdn
  .have e14:=T 14 _ rfl;exact zdn
  .exact zaH
  .have e16:=T 16 _ rfl;clear T;go_simp;refine(cB.o _ (HX.o.trans hx)).mono ?_;exact zdm
  .have e17:=T 17 _ rfl;have y:=cO.o;exact zdn
  .have e15:=T 15 _ rfl;have e18:=T 18 _ rfl;exact zdn
  .have e19:=T 19 _ rfl;exact zdn
  .exact zaH
  .have e21:=T 21 _ rfl;clear T;go_simp;refine(dH.o _ (HX.o.trans hx)).mono ?_;exact zdm
  .have e22:=T 22 _ rfl;have y:=cN.o;exact zdn
  .have e20:=T 20 _ rfl;have e23:=T 23 _ rfl;obtain rfl:=cJ.o;cases j1
   .exact za5
   .exact za5
  .have e24:=T 24 _ rfl;exact zdn
  .exact za0
  .have e26:=T 26 _ rfl;exact zcl
  .exact za0
  .have e28:=T 28 _ rfl;exact zcl
  .have e3:=T 3 _ rfl;exact zcl
  .have e27:=T 27 _ rfl;have e29:=T 29 _ rfl;have e30:=T 30 _ rfl;clear T;go_simp;refine(cE.o _ (HX.o.trans hx)).mono ?_;exact zdm
  .have e31:=T 31 _ rfl;have y:=cM.o;exact zdn
  .have e25:=T 25 _ rfl;have e32:=T 32 _ rfl;obtain rfl:=cI.o;cases l2
   .exact za5
   .exact za5
  .have e33:=T 33 _ rfl;exact zdn
  .have e3:=T 3 _ rfl;exact zdn
  .have e35:=T 35 _ rfl;exact zcl
  .have e36:=T 36 _ rfl;have y:=cL.o;exact zdn
  .have e34:=T 34 _ rfl;have e37:=T 37 _ rfl;obtain rfl:=cH.o;cases l3
   .exact za5
   .exact za5
  .have e38:=T 38 _ rfl;exact zdn
  .exact za0
  .have e40:=T 40 _ rfl;exact zcl
  .exact za0
  .have e42:=T 42 _ rfl;exact zcl
  .have e43:=T 43 _ rfl;clear T;go_simp;refine(cD.o _).mono ?_;exact zdm
  .have e44:=T 44 _ rfl;obtain⟨W1,W2⟩:=HW.o rfl;exact zdn
  .have e41:=T 41 _ rfl;have e45:=T 45 _ rfl;obtain⟨W1,W2⟩:=HW.o rfl;exact zdn
  .have e46:=T 46 _ rfl;have y:=cK.o;exact zdn
  .have e39:=T 39 _ rfl;have e47:=T 47 _ rfl;obtain rfl:=cG.o;cases l4
   .exact za5
   .exact za5
 .intro wa bG;generalize hPK:Cf _ _ _ _=PK;rw[Nw hPK 13 49 ah];clear hPK PK;simp only[List.take_succ_cons,List.take_zero,List.drop_succ_cons,List.drop_zero,List.cons_append,List.nil_append];have aH:=Aa bG;clear bG
  cases l5 with
  | true=>
   go_wp2_with fail
   refine(dJ.o _ aH.o).mono ?_;rintro e w99⟨rfl,aC⟩;have aV:=Aa aC;clear aC;go_wp2_with fail
   go_ret;exact⟨rfl,HX.o.trans aV.o⟩
  | false=>
   obtain⟨aM,bR⟩:=or_no cG;obtain⟨bL,rfl,rfl,rfl⟩:=bE.o aM;obtain⟨pn,mn,N,q,D,rfl,rfl,rfl,hq,hq1,bN,rfl,hD,rfl,cS,bX,aO⟩:=aZ.o aM;have cA:=Aa (cC.o bL);have bC:=Aa (YG (pl:=pl) (sl:=sl) bB.o dE.o cA.o ac);rw[hq,hD]at bC;have jD:D<=64:=by
    have h:=cK.o;rw[bR]at h;have:=of_decide_eq_false h;omega
   have dA:=Aa (bC.o jD);clear bC bE aZ HW cC cA aM bR bL hq hD cS jD HD;obtain⟨aF,bQ,bT,bO,bS,bM⟩:=dA.o;obtain⟨c0,c1,c2,c3,c4,b0,b1,b2⟩:=aA.o wa aH.o;obtain⟨HG,dD,bA,aI,cX⟩:=Of (dC.o wa (HX.o.trans aH.o) aF bQ) bT bO bS bM;clear aF bQ bT bO bS bM;go_wp2_with fail
   refine HG.o.mono ?_;rintro e w2⟨hg,bK⟩;obtain⟨lv,rfl,aE⟩:=dD.o _ _ hg;obtain⟨LA,bY⟩:∃L,LZ pn mn ml N rows=L:=⟨_,rfl⟩;rw[bY]at aE aI;obtain⟨la,lc,rfl,-⟩:=aE.open;obtain⟨LN,aQ⟩:∃k,LA.length=k:=⟨_,rfl⟩;rw[aQ]at aE
   try simp only[aQ]
   have eg:=AH w2 (.cells #[.int .i64 (D:Int),.slice la LN lc] 43);obtain⟨g0,g1,-⟩:=BM w2 (D:Int) (.slice la LN lc);have cF:=Aa (aE.ex eg);have aY:=Aa (aH.o.trans (bK.trans eg));clear hg bK aE eg c0 c1 c2 c3 c4 b0 b1 b2 bY aQ HG;go_upto_region 4 with fail
   obtain⟨GB,aS⟩:∃B,w2.heap.size=B:=⟨_,rfl⟩;rw[aS]at g0 g1
   try simp only[aS]
   clear aS;generalize w2.alloc (.cells #[.int .i64 (D:Int),.slice la LN lc] 43)=w3 at *;have cP:=Aa (fun w' (h:Ex w3 w')=>(⟨h.cell g0,h.cell g1⟩:_/\_));clear g0 g1;obtain⟨c0,c1,c2,c3,c4,b0,b1,b2⟩:=aA.o w3 aY.o;go_wp2_with fail
   refine(cZ.o w3 (HX.o.trans aY.o)).mono ?_;rintro e w4⟨⟨v4,rfl,aJ⟩,aG⟩;rw[bA.o.1];rw[bA.o.2.1]at aJ;have cV:=Aa aJ;have cU:=Aa (aY.o.trans aG);obtain⟨g0,g1⟩:=cP.o w4 aG;have bD:=Aa (cF.o.ex aG);clear aJ aG c0 c1 c2 c3 c4 b0 b1 b2 cF cP;go_wp2_with fail
   refine(ZG w4 (D:Int) LA _ bD.o aI.o.1 _ _ cV.o).mono ?_;rintro e w5⟨rfl,bJ⟩;rw[aI.o.2.1];have aX:=Aa (cU.o.trans bJ);obtain⟨HB,aR⟩:∃b,KY (D:Int) LA (Hr pn mn ml pl sl)=b:=⟨_,rfl⟩;rw[aR];have dB:=Aa (show HB=true↔AZ pn mn ml N rows rows pl sl from by rw[<-aR];exact aI.o.2.2);clear bJ aR g0 g1;obtain⟨c0,c1,c2,c3,c4,b0,b1,b2⟩:=aA.o w5 aX.o;go_wp2_with fail
   refine(dI.o w5 (HX.o.trans aX.o)).mono ?_;rintro e w6⟨bW,bI⟩;obtain⟨piv,a',rv,v',rfl,bU,aK,aD⟩:=Xa (fr:=0) (show ZK pn mn ml N rows _ _ ((0:Nat):Int) _ _ _ from bW) bB.o bA.o.2.2;obtain⟨M,hM⟩:∃x,Aw N piv.length a'=x:=⟨_,rfl⟩;rw[hM]at aD;have cW:=Aa (show QO ⟨pn,mn,ml,N,rows⟩ ⟨pn,mn,ml,N,M⟩=HB from by rw[<-hM];exact cX.o _ _ _ bU dB.o);obtain⟨va,vc,rfl,-⟩:=aK.open;obtain⟨ra,rc,rfl,-⟩:=aD.open;obtain⟨ML,aP⟩:∃k,M.length=k:=⟨_,rfl⟩;rw[aP]at aD
   try simp only[aP]
   obtain⟨d0,d1,d2,d3,d4⟩:=CH w6 ⟨pn,mn,ml,N,M⟩ (.slice va ml.length vc) (.slice ra ML rc);have ed:=AH w6 ((⟨pn,mn,ml,N,M⟩:AR).obj (.slice va ml.length vc) (.slice ra ML rc));dsimp only[AR.arg,AR.obj]at d0 d1 d2 d3 d4 ed;have aW:=Aa (aX.o.trans (bI.trans ed));have dF:=Aa (aK.ex ed);have dG:=Aa (aD.ex ed);clear bW bI bU aK aD ed hM aP c0 c1 c2 c3 c4 b0 b1 b2;go_upto_region 7 with fail
   obtain⟨DB,aU⟩:∃B,w6.heap.size=B:=⟨_,rfl⟩;rw[aU]at d0 d1 d2 d3 d4
   try simp only[aU]
   clear aU;generalize w6.alloc (.cells #[.int .i64 (pn:Int),.int .i64 (mn:Int),.slice va ml.length vc,.int .i64 (N:Int),.slice ra ML rc] 39)=w7 at *;obtain⟨c0,c1,c2,c3,c4,b0,b1,b2⟩:=aA.o w7 aW.o;go_wp2_with fail
   refine(cY.o w7 (HX.o.trans aW.o) ⟨pn,mn,ml,N,M⟩ _ _ ⟨dF.o,dG.o⟩).mono ?_;rintro e w8⟨rfl,bH⟩;have cT:=Aa (aW.o.trans bH);rw[cW.o];have y9:(HB==HB)=true:=ag;clear bH c0 c1 c2 c3 c4 b0 b1 b2 d0 d1 d2 d3 d4;go_wp2_with fail
   go_ret;exact⟨by first|rfl|simp,HX.o.trans cT.o⟩
end Go.Proofs.YtehieobniamagaaGreat
