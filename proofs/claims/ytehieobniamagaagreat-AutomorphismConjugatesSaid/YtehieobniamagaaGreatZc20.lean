/- Walk of automorphism.from (printed by gen_frm.py). -/
import Derived.Test.YtehieobniamagaaGreatZc19
namespace Go.Proofs.YtehieobniamagaaGreat
open Go.RowKit
set_option linter.all false
set_option maxRecDepth 100000
set_option maxHeartbeats 8000000
def FS(Q:Nat)(P:List Int)(i:Nat):Int:=P.getD (i*Q) 0/(Q:Int)
def Gu(Q:Nat)(P:List Int)(i:Nat):Int:=P.getD (i*Q) 0%(Q:Int)+1
def Ve(p m:Nat)(ml:List Int)(N:Nat)(P:List Int):Bool:=decide (Hm p m ml (il N (FS (p^m-1) P)) (il N (Gu (p^m-1) P))=P)
section
variable {b p m x0:Nat} {ml:List Int}
theorem zbT{P:Prop}(h:P:=by
 have k9:IntKind.i64.wrap ((Q:Int))=(Q:Int):=IntWalk.i64_in _ (by omega);exact zdj):P:=h
theorem dy{P:Prop}(h:P:=by rw[<-hB];simp):P:=h
theorem Qu(w:World)(hg:Bj w b p m ml x0)(N:Nat)(hN1:1<=N)(hN:N<=64)(P:List Int)(pv:Value)(hp:Aj w pv P)(hd:N*(p^m-1)<=64)(aA:P.length=N*(p^m-1))(aT:∀x∈P,0<=x/\x<(P.length:Int)):
  Calls Tryz.prog 58 #[.pointer (some ⟨b,0,none⟩),.int .i64 N,pv] w fun r w'=>∃u v,r= .returned (.tuple #[.agg #[u,v,.int .i64 0],.bool (Ve p m ml N P)])/\Aj w' u (il N (FS (p^m-1) P))/\Aj w' v (il N (Gu (p^m-1) P))/\((∀X,u.ownBlock=some X->w.heap.size<=X)/\∀X,v.ownBlock=some X->w.heap.size<=X)/\Ex w w':=by
 have HG:=Aa hg;have bX:2<=p^m:=Nat.le_trans hg.sh.p2 (Nat.le_self_pow (by have:=hg.sh.m1;omega) p);have bW:=hg.sh.q;have bP:=Aa (fun w1 (h:Ex w w1)=>Cu w1 (hg.ex h));have bB:=Aa (fun (w1:World) (h:Ex w w1) (pl sl:List Int) (u v:Value) (hp:Aj w1 u pl) (hs:Aj w1 v sl) (h1:pl.length=N) (h2:sl.length=N) (h3:BD pl N=true)=>RK w1 (hg.ex h) N hN pl sl u v hp hs h1 h2 h3 hd 0);obtain⟨BE,aX⟩:∃b,Ve p m ml N P=b:=⟨_,rfl⟩;have bF:=Aa (show decide (il (N*(p^m-1)) (Pi p m ml (il N (FS (p^m-1) P)) (il N (Gu (p^m-1) P)))=P)=BE from by
  rw[<-aX];unfold Ve Hm;rw[Ao])
 rw[aX];obtain⟨pa,pc,rfl,z1,z2,p3⟩:=hp.open;unfold maxLen at z2;have P3:=Aa p3;have HP:=Aa hp;obtain⟨q,hq⟩:=nA (p^m);obtain⟨Q,hQ⟩:=nA (q-1);rw[hq]at bP bB bF bX bW hd aA ⊢;rw[hQ]at bB bF hd aA ⊢;have kQ:(q:Int)-1=(Q:Int):=ac;have bZ:1<=Q:=ac;obtain⟨PN,aV⟩:∃n,P.length=n:=⟨_,rfl⟩;rw[aV]at aA aT p3 P3 z1 HP ⊢;have bO:=Aa (show ∀i,i<N->∃X:Nat,P.getD (i*Q) 0=(X:Int)/\i*Q<PN/\X<PN from fun i hi=>by
  have h1:i*Q<PN:=by rw[aA];exact Nat.mul_lt_mul_of_pos_right hi bZ
  obtain⟨h2,h3⟩:=aT (P.getD (i*Q) 0) (List.mem_of_getElem? (AU ac));exact⟨(P.getD (i*Q) 0).toNat,ac,h1,ac⟩)
 obtain⟨cM,HPN,HLN,HD,cE⟩:=Of (fun i (hi:i<PN)=>AU (l:=P) (i:=i) ac) aV aA (show PN<=64 from ac) (show ∀X:Nat,X<PN->X/Q<N from fun X hX=>Nat.div_lt_of_lt_mul (by rw[Nat.mul_comm,<-aA];exact hX));clear hg hp aT aA hd aV p3 aX hq hQ;have kq0:¬(Q:Int)=0:=by omega
 have kq1:¬Q=0:=ac;have kqb:Q<=255:=ac;go_enter Tryz.func58,Tryz.ntmps58
 go_upto_region 1 with fail
 obtain⟨B0,hB⟩:∃B,w.heap.size=B:=⟨_,rfl⟩;have r0:(w.alloc (.cells #[.slice none 0 0,.slice none 0 0,.int .i64 0] 26)).cell? ⟨B0,0,none⟩=some (.slice none 0 0):=dy;have r1:(w.alloc (.cells #[.slice none 0 0,.slice none 0 0,.int .i64 0] 26)).cell? ⟨B0,1,none⟩=some (.slice none 0 0):=dy;have r2:(w.alloc (.cells #[.slice none 0 0,.slice none 0 0,.int .i64 0] 26)).cell? ⟨B0,2,none⟩=some (.int .i64 0):=dy;have s0:(w.alloc (.cells #[.slice none 0 0,.slice none 0 0,.int .i64 0] 26)).frozen? ⟨B0,0,none⟩=false:=dy;have s1:(w.alloc (.cells #[.slice none 0 0,.slice none 0 0,.int .i64 0] 26)).frozen? ⟨B0,1,none⟩=false:=dy;have s2:(w.alloc (.cells #[.slice none 0 0,.slice none 0 0,.int .i64 0] 26)).frozen? ⟨B0,2,none⟩=false:=dy;have aN:=Aa (show Ex w (w.alloc (.cells #[.slice none 0 0,.slice none 0 0,.int .i64 0] 26)) from(Ex.refl w).alloc _);have bM:=Aa (show(w.alloc (.cells #[.slice none 0 0,.slice none 0 0,.int .i64 0] 26)).heap.size=B0+1 from by simp[hB])
 try simp only[hB]
 have cO:=Aa hB;clear hB;generalize w.alloc (.cells #[.slice none 0 0,.slice none 0 0,.int .i64 0] 26)=w3 at *;have bN:=Aa (show ∀w',Ex w3 w'->w'.cell? ⟨B0,0,none⟩=some (.slice none 0 0)/\w'.cell? ⟨B0,1,none⟩=some (.slice none 0 0)/\w'.cell? ⟨B0,2,none⟩=some (.int .i64 0)/\w'.frozen? ⟨B0,0,none⟩=false/\w'.frozen? ⟨B0,1,none⟩=false/\w'.frozen? ⟨B0,2,none⟩=false from
  fun w' h=>⟨h.cell r0,h.cell r1,h.cell r2,h.frz r0 s0,h.frz r1 s1,h.frz r2 s2⟩)
 go_upto_region 2 with (go_at_call 54;refine(bP.o w3 aN.o).mono ?_;rintro e w2⟨rfl,rfl⟩)
 obtain⟨B1,aY⟩:∃B,w3.heap.size=B:=⟨_,rfl⟩;have bE:=Aa (Hz.new w3 0);rw[aY]at bE;have bT:=Aa aY;clear r0 r1 r2 s0 s1 s2 aY;go_upto_region 3 with fail
 try simp only[bT.o]
 generalize w3.alloc (.cells #[.slice none 0 0,.slice none 0 0,.int .i64 0] 26)=w4 at *;go_wp2_with fail
 go_loopw [15] (fun i' wr=>∃(i:Nat) (pv sv:Value),i<=N/\i'= .int .i64 i/\Hia (Hz w3 wr B1 0 pv sv (il i (FS Q P)) (il i (Gu Q P)))) (fun i' _=>N-(intOf i').toNat)
 case atStart=>exact⟨0,_,_,ac,rfl,bE⟩
 case round=>
  clear bE;obtain⟨i,pv,sv,hi,rfl,HC⟩:=hrel;by_cases aB:i<N
  .obtain⟨X,hX,bL,bY⟩:=bO.o i aB;obtain⟨A,hA⟩:=nA (X/Q);obtain⟨R,hR⟩:=nA (X%Q);have cL:=Aa (show il (i+1) (FS Q P)=il i (FS Q P) ++ [(A:Int)] from by rw[TE];unfold FS;rw[hX,<-hA];norm_cast);have cK:=Aa (show il (i+1) (Gu Q P)=il i (Gu Q P) ++ [(R:Int)+1] from by rw[TE];unfold Gu;rw[hX,<-hR];norm_cast);have kd:(X:Int).tdiv (Q:Int)=(A:Int):=by rw[Int.tdiv_eq_ediv_of_nonneg ac,<-hA];norm_cast
   have kr:(X:Int).tmod (Q:Int)=(R:Int):=by rw[Int.tmod_eq_emod_of_nonneg ac,<-hR];norm_cast
   have hAb:A<=64:=by rw[<-hA];exact Nat.le_trans (Nat.div_le_self _ _) (by have:=HD.o;omega)
   have hRb:R<=64:=by rw[<-hR];exact Nat.le_trans (Nat.mod_le _ _) (by have:=HD.o;omega)
   obtain⟨pb,po,rfl,bJ⟩:=P3.o ac;have cx:=(aN.o.trans HC.o.ex).cell (bJ _ _ (cM.o _ bL));rw[hX]at cx;obtain⟨IQ,aW⟩:∃z,i*Q=z:=⟨_,rfl⟩;rw[aW]at cx bL;have kI:(i:Int)*(Q:Int)=(IQ:Int):=by rw[<-aW];norm_cast
   have i1:(0:Int)<=(IQ:Int):=ac;have i2:(IQ:Int)<(PN:Int):=ac;have aQ:=Aa (show(il i (FS Q P)).length<=64/\(il i (Gu Q P)).length<=64 from by rw[Ao,Ao];omega);have aE:=Aa hN;obtain⟨va,vc,rfl⟩:=Ad HC.o.o0;obtain⟨ua,uc,rfl⟩:=Ad HC.o.o1;have HCW:=Aa HC.o.ex;have D0:=Aa HC.o.b0;have bC:=Aa aB;clear hX hA hR bJ aW aB bY;go_wp2_with fail
   go_upto_region 7 with fail
   clear cx kI i1 i2
   go_cut [25] from 25 to 33 (fun _ wx=>∃aH aG,Hia (Hz w3 wx B1 0 (.slice aH (il (i+1) (FS Q P)).length aG) (.slice ua (il i (Gu Q P)).length uc) (il (i+1) (FS Q P)) (il i (Gu Q P))))
   case first=>
    refine FT (fun k=>([.pointer (some ⟨B1,0,none⟩),.slice va (il i (FS Q P)).length vc,.int .i64 (X:Int),.int .i64 (q:Int),.int .i64 (Q:Int),.int .i64 (A:Int),undef,undef,.pointer (some ⟨B1,0,none⟩)]:List Value).getD k undef) 6 7 8 9 (.int .i64 (A:Int)) 3 (fun v w=>∃w1,Hz w3 w1 B1 0 (.slice va (il i (FS Q P)).length vc) (.slice ua (il i (Gu Q P)).length uc) (il i (FS Q P)) (il i (Gu Q P))/\SP w1 w w3.heap.size 3 1 (.slice va (il i (FS Q P)).length vc) v (il i (FS Q P)).length (Ap (il i (FS Q P))) [.int .i64 (A:Int)]) (fun v w=>Hz w3 w B1 0 v (.slice ua (il i (Gu Q P)).length uc) ((il i (FS Q P)) ++ [(A:Int)]) (il i (Gu Q P))) ah ah ah ?_ ?_ ?_ ?_ (fun B v k=>([.pointer (some ⟨B1,0,none⟩),.slice va (il i (FS Q P)).length vc,.int .i64 (X:Int),.int .i64 (q:Int),.int .i64 (Q:Int),.int .i64 (A:Int),.slice (some ⟨B,0,none⟩) 1 1,v,.pointer (some ⟨B1,0,none⟩)]:List Value).getD k undef) (fun _ _=>rfl) ?_
    .simp only[AG];refine⟨?_,?_,?_,?_,?_,?_,?_,?_,?_,?_,trivial⟩
     all_goals first|exact I5.sk ae|refine I5.go ae fun a w T hx K hK=>?_|refine I5.gf ae fun a w T K hK=>?_
     .have e9:=T 9 _ rfl;exact zdj
     .have e25:=T 25 _ rfl;have q1:=hx.cell D0.o;exact zdj
     .have cA:=T 11 _ rfl;exact zdj
     .exact zaX
     .have e28:=T 28 _ rfl;exact zbT
     .have e27:=T 27 _ rfl;have e29:=T 29 _ rfl;have k9:IntKind.i64.wrap ((A:Int))=(A:Int):=IntWalk.i64_in _ ac;exact zdj
     .have e9:=T 9 _ rfl;clear T;go_simp;exact hK
    .intro o a w1 K ho hx aB hK;injection (show some _=some o from ho) with ho;subst ho;have e30:=aB 5 30 _ ah ae ae ae rfl rfl;clear aB;go_simp;exact hK
    .intro o ob a w1 B8 K ho aK hx aS aU aB hA;injection (show some _=some o from ho) with ho;subst ho;injection (show some _=some ob from aK) with aK;subst aK;have e1:=CC (aB 1 26 _ ah ae ae ae rfl rfl);have e2:=CC (aS 31 rfl);refine Dr _ _ 22 rfl w3.heap.size 3 (.int .i64 0) 1 8 Tryz.underlying22 Az rfl ae (.slice va (il i (FS Q P)).length vc) (il i (FS Q P)).length (Ap (il i (FS Q P))) e1 ((HC.o.later hx).o0) _ 1 [.int .i64 (A:Int)] e2 (SW aU) aj (by have:=aQ.o.1;have:=aE.o;unfold maxLen;omega) (by have:=aQ.o.1;have:=aE.o;omega) ((HC.o.later hx).ex.size) ?_;intro v' w' aI hg ha;exact hA v' w' (⟨w1,HC.o.later hx,⟨aI,hg,ha,(HC.o.later hx).o0⟩⟩)
    .intro o oa of a w1 v K ho aL aJ hA h1 h2 hK;injection (show some _=some o from ho) with ho;subst ho;injection (show some _=some oa from aL) with aL;subst aL;injection (show some _=some of from aJ) with aJ;subst aJ;have e1:=h1 32 rfl;have e2:=h2 33 rfl;obtain⟨w2,aM,aD⟩:=hA;obtain⟨g1,g2⟩:=aM.at0g aD;have aC:=aM.app0g aD;obtain⟨aH,aG,rfl⟩:=Ad aD.own;clear aM aD h1 h2;have bD:=Aa aC;clear aC;go_simp;exact hK _ bD.o
    .intro B8 v w1 hF;rw[<-cL.o]at hF;obtain⟨aH,aG,bI⟩:=Ad hF.o0;rw[bI]at hF;have HF:=Aa hF;clear hF bI;simp only[Cm,Act.put,List.setIfInBounds_toArray,List.set_cons_zero,List.set_cons_succ];go_wp2_with fail
     go_meet
     exact⟨aH,aG,HF⟩
   case rest=>
    obtain⟨aH,aG,bK⟩:=hcut;have aP:=Aa bK.o;clear bK;have HCX:=Aa aP.o.ex;have D1:=Aa aP.o.b1;go_upto_region 8 with fail
    refine FT (fun k=>([.pointer (some ⟨B1,1,none⟩),.slice ua (il i (Gu Q P)).length uc,.int .i64 (X:Int),.int .i64 (q:Int),.int .i64 (Q:Int),.int .i64 (R:Int),.int .i64 ((R:Int)+1),undef,undef,.pointer (some ⟨B1,1,none⟩)]:List Value).getD k undef) 7 8 9 10 (.int .i64 ((R:Int)+1)) 3 (fun v w=>∃w1,Hz w3 w1 B1 0 (.slice aH (il (i+1) (FS Q P)).length aG) (.slice ua (il i (Gu Q P)).length uc) (il (i+1) (FS Q P)) (il i (Gu Q P))/\SP w1 w w3.heap.size 3 1 (.slice ua (il i (Gu Q P)).length uc) v (il i (Gu Q P)).length (Ap (il i (Gu Q P))) [.int .i64 ((R:Int)+1)]) (fun v w=>Hz w3 w B1 0 (.slice aH (il (i+1) (FS Q P)).length aG) v (il (i+1) (FS Q P)) ((il i (Gu Q P)) ++ [(R:Int)+1])) ah ah ah ?_ ?_ ?_ ?_ (fun B v k=>([.pointer (some ⟨B1,1,none⟩),.slice ua (il i (Gu Q P)).length uc,.int .i64 (X:Int),.int .i64 (q:Int),.int .i64 (Q:Int),.int .i64 (R:Int),.int .i64 ((R:Int)+1),.slice (some ⟨B,0,none⟩) 1 1,v,.pointer (some ⟨B1,1,none⟩)]:List Value).getD k undef) (fun _ _=>rfl) ?_
    .simp only[AG];refine⟨?_,?_,?_,?_,?_,?_,?_,?_,?_,?_,?_,trivial⟩
     all_goals first|exact I5.sk ae|refine I5.go ae fun a w T hx K hK=>?_|refine I5.gf ae fun a w T K hK=>?_
     .have e9:=T 9 _ rfl;exact zdj
     .have e34:=T 34 _ rfl;have q1:=hx.cell D1.o;exact zdj
     .have cA:=T 11 _ rfl;exact zdj
     .exact zaX
     .have e37:=T 37 _ rfl;exact zbT
     .have e36:=T 36 _ rfl;have e38:=T 38 _ rfl;have k9:IntKind.i64.wrap ((R:Int))=(R:Int):=IntWalk.i64_in _ ac;exact zdj
     .have e39:=T 39 _ rfl;have k9:IntKind.i64.wrap ((R:Int)+1)=(R:Int)+1:=IntWalk.i64_in _ ac;exact zdj
     .have e9:=T 9 _ rfl;clear T;go_simp;exact hK
    .intro o a w1 K ho hx aB hK;injection (show some _=some o from ho) with ho;subst ho;have e40:=aB 6 40 _ ah ae ae ae rfl rfl;clear aB;go_simp;exact hK
    .intro o ob a w1 B8 K ho aK hx aS aU aB hA;injection (show some _=some o from ho) with ho;subst ho;injection (show some _=some ob from aK) with aK;subst aK;have e1:=CC (aB 1 35 _ ah ae ae ae rfl rfl);have e2:=CC (aS 41 rfl);refine Dr _ _ 22 rfl w3.heap.size 3 (.int .i64 0) 1 8 Tryz.underlying22 Az rfl ae (.slice ua (il i (Gu Q P)).length uc) (il i (Gu Q P)).length (Ap (il i (Gu Q P))) e1 ((aP.o.later hx).o1) _ 1 [.int .i64 ((R:Int)+1)] e2 (SW aU) aj (by have:=aQ.o.2;have:=aE.o;unfold maxLen;omega) (by have:=aQ.o.2;have:=aE.o;omega) ((aP.o.later hx).ex.size) ?_;intro v' w' aI hg ha;exact hA v' w' (⟨w1,aP.o.later hx,⟨aI,hg,ha,(aP.o.later hx).o1⟩⟩)
    .intro o oa of a w1 v K ho aL aJ hA h1 h2 hK;injection (show some _=some o from ho) with ho;subst ho;injection (show some _=some oa from aL) with aL;subst aL;injection (show some _=some of from aJ) with aJ;subst aJ;have e1:=h1 42 rfl;have e2:=h2 43 rfl;obtain⟨w2,aM,aD⟩:=hA;obtain⟨g1,g2⟩:=aM.at1g aD;have aC:=aM.app1g aD;obtain⟨va7,vc7,rfl⟩:=Ad aD.own;clear aM aD h1 h2;have bD:=Aa aC;clear aC;go_simp;exact hK _ bD.o
    .intro B8 v w1 hF;rw[<-cK.o]at hF;have HF:=Aa hF;clear hF;simp only[Cm,Act.put,List.setIfInBounds_toArray,List.set_cons_zero,List.set_cons_succ];go_wp2_with fail
     go_roundw
     case rel=>first|exact⟨i+1,_,_,by have:=bC.o;omega,by go_num,HF⟩|((repeat apply Exists.intro);exact⟨⟨i+1,_,_,by have:=bC.o;omega,by go_num,HF⟩,rfl⟩)
     case measure=>have:=bC.o;simp[intOf];omega
  .obtain rfl:i=N:=by omega
   obtain⟨va,vc,rfl⟩:=Ad HC.o.o0;obtain⟨ua,uc,rfl⟩:=Ad HC.o.o1;have HC:=Aa HC.o;have m0:=HC.o.b0;have m1:=HC.o.b1;have m2:=HC.o.b2;have bA:=Aa (show Aj wr (.slice va (il i (FS Q P)).length vc) (il i (FS Q P)) from Sl.own HC.o.o0);have aZ:=Aa (show Aj wr (.slice ua (il i (Gu Q P)).length uc) (il i (Gu Q P)) from Sl.own HC.o.o1);rw[Ao]at bA m0;rw[Ao]at aZ m1;have cI:=Aa (show BD (il i (FS Q P)) i=true from by
    unfold BD;rw[List.all_eq_true];intro x hx;unfold il at hx;obtain⟨j,hj,rfl⟩:=List.mem_map.1 hx;rw[List.mem_range]at hj;obtain⟨X,h1,h2,h3⟩:=bO.o j hj;have h4:=cE.o X h3;have h5:FS Q P j=((X/Q:Nat):Int):=by unfold FS;rw[h1];norm_cast
    rw[h5];generalize X/Q=Z at *;exact decide_eq_true ⟨ac,ac⟩)
   have cJ:=Aa (fun w' (h:Ex wr w')=>bB.o w' (aN.o.trans (HC.o.ex.trans h)) _ _ _ _ (bA.o.ex h) (aZ.o.ex h) (Ao _ _) (Ao _ _) cI.o);have cN:=Aa (fun w' (h:Ex wr w') (v:Value) (hv:Aj w' v (il (i*Q) (Pi p m ml (il i (FS Q P)) (il i (Gu Q P)))))=>(by
    have:=Hj w' _ P v (.slice pa PN pc) hv (HP.o.ex (aN.o.trans (HC.o.ex.trans h)));rw[bF.o]at this;exact this:Calls Tryz.prog 101 #[v,.slice pa PN pc] w' fun r w''=>r= .returned (.bool BE)/\∃n,w''=w'.drewN n))
   obtain⟨HR,aF,M0,M1,M2,cF⟩:=To (bN.o wr HC.o.ex) (show B0≠B1 from by have:=bT.o;have:=bM.o;omega) m0 m1 m2 (aN.o.trans HC.o.ex);clear m0 m1 m2;go_wp2_with fail
   have G0:Ex wr wr.drew:=(Ex.refl wr).drew;obtain⟨aO,cH,bR,bQ⟩:=Eq (fun (w5:World) (h5:Ex wr w5)=>(⟨h5.cell M0.o,h5.cell M1.o,h5.cell M2.o⟩:w5.cell? ⟨B1,0,none⟩=some (.slice va i vc)/\w5.cell? ⟨B1,1,none⟩=some (.slice ua i uc)/\w5.cell? ⟨B1,2,none⟩=some (.int .i64 0))) (fun (w5:World) (h5:Ex wr w5)=>bN.o w5 (HC.o.ex.trans h5)) HC.o.o0 HC.o.o1;have bS:=Aa (show ∀v (L:List Int),wr.ownsRow w3.heap.size 3 1 v L.length (Ap L)->∀X,v.ownBlock=some X->X≠B0 from fun v L h X e=>by
    have:=(h.lt X e).1;have:=bM.o;omega)
   have bG:=Aa (fun (w5:World) (h5:Ex wr w5)=>(⟨(World.cell?_setCell_other _ _ _ _ (by intro e;have:=aF.o;simp at e <;> omega)).trans ((World.cell?_setCell_other _ _ _ _ (by intro e;have:=aF.o;simp at e <;> omega)).trans ((World.cell?_setCell_other _ _ _ _ (by intro e;have:=aF.o;simp at e <;> omega)).trans (h5.cell M0.o))),(World.cell?_setCell_other _ _ _ _ (by intro e;have:=aF.o;simp at e <;> omega)).trans ((World.cell?_setCell_other _ _ _ _ (by intro e;have:=aF.o;simp at e <;> omega)).trans ((World.cell?_setCell_other _ _ _ _ (by intro e;have:=aF.o;simp at e <;> omega)).trans (h5.cell M1.o))),(World.cell?_setCell_other _ _ _ _ (by intro e;have:=aF.o;simp at e <;> omega)).trans ((World.cell?_setCell_other _ _ _ _ (by intro e;have:=aF.o;simp at e <;> omega)).trans ((World.cell?_setCell_other _ _ _ _ (by intro e;have:=aF.o;simp at e <;> omega)).trans (h5.cell M2.o)))⟩:(((w5.setCell ⟨B0,0,none⟩ (.slice va i vc)).setCell ⟨B0,1,none⟩ (.slice ua i uc)).setCell ⟨B0,2,none⟩ (.int .i64 0)).cell? ⟨B1,0,none⟩=some (.slice va i vc)/\(((w5.setCell ⟨B0,0,none⟩ (.slice va i vc)).setCell ⟨B0,1,none⟩ (.slice ua i uc)).setCell ⟨B0,2,none⟩ (.int .i64 0)).cell? ⟨B1,1,none⟩=some (.slice ua i uc)/\(((w5.setCell ⟨B0,0,none⟩ (.slice va i vc)).setCell ⟨B0,1,none⟩ (.slice ua i uc)).setCell ⟨B0,2,none⟩ (.int .i64 0)).cell? ⟨B1,2,none⟩=some (.int .i64 0)));clear HC HR
   go_region_held3 (fun w'=>w'.cell? ⟨B1,0,none⟩=some (.slice va i vc)/\w'.cell? ⟨B1,1,none⟩=some (.slice ua i uc)/\w'.cell? ⟨B1,2,none⟩=some (.int .i64 0))
    (first|with_reducible exact bG.o _ X6|with_reducible exact aO.o _ X6|with_reducible exact aO.o _ X5|with_reducible exact aO.o _ G0)
    (first|(go_at_call 55;(with_reducible refine(cJ.o _ G0).mono ?_);rintro e w5⟨v5,rfl,aR,bH⟩;have X5:=G0.trans bH;obtain⟨bV,bU,rfl⟩:=Ad aR;have cG:=Aa (show Aj w5 (.slice bV (i*Q) bU) (il (i*Q) (Pi p m ml (il i (FS Q P)) (il i (Gu Q P)))) from by unfold Aj;rw[Ao,Cw];exact Sl.own aR);clear aR bH)|(go_at_call 101;(with_reducible refine(cN.o _ X5 _ cG.o).mono ?_);rintro e w6⟨rfl,n6,rfl⟩;have X6:=X5.drewN n6;obtain⟨cD,cC,cB,f60,f61,f62⟩:=cH.o _ X6))
   all_goals
    obtain⟨z0,z1,z2⟩:((((w5.drewN n6).setCell ⟨B0,0,none⟩ (.slice va i vc)).setCell ⟨B0,1,none⟩ (.slice ua i uc)).setCell ⟨B0,2,none⟩ (.int .i64 0)).cell? ⟨B0,0,none⟩=some (.slice va i vc)/\((((w5.drewN n6).setCell ⟨B0,0,none⟩ (.slice va i vc)).setCell ⟨B0,1,none⟩ (.slice ua i uc)).setCell ⟨B0,2,none⟩ (.int .i64 0)).cell? ⟨B0,1,none⟩=some (.slice ua i uc)/\((((w5.drewN n6).setCell ⟨B0,0,none⟩ (.slice va i vc)).setCell ⟨B0,1,none⟩ (.slice ua i uc)).setCell ⟨B0,2,none⟩ (.int .i64 0)).cell? ⟨B0,2,none⟩=some (.int .i64 0):=⟨by rw[Ag ae,Ag ae];exact World.cell?_setCell_same _ _ _ cD,by rw[Ag ae];exact World.cell?_setCell_same _ _ _ ((Ag ae).trans cC),World.cell?_setCell_same _ _ _ ((Ag ae).trans ((Ag ae).trans cB))⟩;go_wp2_with fail
    exact bodyPost_ret (v:= .tuple #[.agg #[.slice va i vc,.slice ua i uc,.int .i64 0],.bool BE]) (by simp[results,Tryz.results58,go_sem,z0,z1,z2]) rfl ⟨_,_,rfl,Fs (bA.o.ex X6) (by have:=bS.o _ _ bR.o;rw[Ao]at this;exact this) _ _ _,Fs (aZ.o.ex X6) (by have:=bS.o _ _ bQ.o;rw[Ao]at this;exact this) _ _ _,⟨fun X e=>by have:=(bR.o.lt X (by rw[Ao];exact e)).1;have:=aN.o.size;omega,fun X e=>by have:=(bQ.o.lt X (by rw[Ao];exact e)).1;have:=aN.o.size;omega⟩,Co (cF.o.trans X6) (Nat.le_of_eq cO.o) _ _ _⟩
end
def Wm(p m:Int)(ml pl sl:List Int)(fr:Int):Int:=
 if CL p m ml pl.length pl sl fr≠0 then CL p m ml pl.length pl sl fr else if fr≠0 then 5 else if 64<pl.length*(p.toNat^m.toNat-1) then 8 else 0
def ptL(p m:Int)(ml pl sl:List Int)(fr:Int):List Int:=if Wm p m ml pl sl fr=0 then Hm p.toNat m.toNat ml pl sl else []
def LeR(L:List Int)(e:Int)(r:Ending)(w':World):Prop:=∃v,r= .returned (.tuple #[v,e])/\Aj w' v L
theorem Ow{L L':List Int}{e e':Int}{v:Value}{w':World}(h1:L=L')(h2:e=e')(h:Aj w' v L):LeR L' e' (.returned (.tuple #[v,e])) w':=by subst h1 h2;exact⟨v,rfl,h⟩
theorem zdb{P:Prop}(h:P:=by
 clear aB aA hd;go_simp;exact hK _ (Ex.refl w)):P:=h
theorem zas{P:Prop}(h:P:=by
 refine Bu.on rfl fun L a w aB aA hd hx K hK=>?_;have e31:=aB 6 31 _ (hd ⟨6,.data⟩ (by simp) rfl) rfl rfl;exact zdb):P:=h
theorem zca{P:Prop}(h:P:=by
 go_wp2_with fail
 go_ret2;exact⟨Ow aF.o.symm HR.o.symm (AR _),HE.o.trans aK.o⟩):P:=h
theorem zc8{P:Prop}(h:P:=by
 rintro e w5⟨rfl,rfl⟩;exact hK _ (Ex.refl _)):P:=h
theorem Mt(w:World)(p m:Int)(ml:List Int)(mv:Value)(aM:Aj w mv ml)(pl sl:List Int)(pv sv:Value)(hp:Aj w pv pl)(hs:Aj w sv sl)(fr:Int):
  Calls Tryz.prog 15 #[.agg #[p,m,mv],.agg #[pv,sv,fr]] w fun r w'=>LeR (ptL p m ml pl sl fr) (Wm p m ml pl sl fr) r w'/\Ex w w':=by
 obtain⟨a0,a1,a2,ea⟩:=Gb w p m mv;obtain⟨b0,b1,b2,eb⟩:=Bh (w.alloc (.cells #[p,m,mv] 24)) pv sv fr;replace a0:=eb.cell a0;replace a1:=eb.cell a1;replace a2:=eb.cell a2;have HE:=Aa (ea.trans eb);have bD:=Aa (aM.ex HE.o);have HP:=Aa (hp.ex HE.o);have HS:=Aa (hs.ex HE.o);obtain⟨ma,mc,rfl,_,_,_⟩:=aM.open;obtain⟨pa,pc,rfl,_,z2,_⟩:=hp.open;obtain⟨sa,sc,rfl,_,_,_⟩:=hs.open;unfold maxLen at z2;have aY:(w.alloc (.cells #[p,m,.slice ma ml.length mc] 24)).heap.size=w.heap.size+1:=ag;rw[aY]at b0 b1 b2;obtain⟨B,hB⟩:=nA w.heap.size;rw[hB]at a0 a1 a2 b0 b1 b2;obtain⟨E,hE⟩:=nA (CL p m ml pl.length pl sl fr);obtain⟨bL,aC,aE,bE⟩:=Eq hE (show Wm p m ml pl sl fr=if E≠0 then E else if fr≠0 then 5 else if 64<pl.length*(p.toNat^m.toNat-1) then 8 else 0 from by unfold Wm;rw[hE]) (show ptL p m ml pl sl fr=if Wm p m ml pl sl fr=0 then Hm p.toNat m.toNat ml pl sl else [] from rfl) (fun (h:E=0)=>Lr (hE.trans h));obtain⟨PE,aX⟩:∃x,Wm p m ml pl sl fr=x:=⟨_,rfl⟩;obtain⟨PL,aW⟩:∃x,ptL p m ml pl sl fr=x:=⟨_,rfl⟩;rw[aX]at aC aE ⊢;rw[aW]at aE ⊢;have aS:=Aa (fun w1 (h:Ex ((w.alloc (.cells #[p,m,.slice ma ml.length mc] 24)).alloc (.cells #[.slice pa pl.length pc,.slice sa sl.length sc,fr] 26)) w1)=>Sg w1 p m ml _ (bD.o.ex h) pl.length pl sl _ _ (HP.o.ex h) (HS.o.ex h) fr);rw[hE]at aS;clear hE aX aW aM hp hs aY ea eb;have aZ:=Aa b0;go_enter Tryz.func15,Tryz.ntmps15
 go_upto_region 1 with fail
 try simp only[hB]
 clear hB;generalize (w.alloc (.cells #[p,m,.slice ma ml.length mc] 24)).alloc (.cells #[.slice pa pl.length pc,.slice sa sl.length sc,fr] 26)=w1 at *;go_wp2_with fail
 refine(aS.o w1 (Ex.refl _)).mono ?_;rintro e w2⟨rfl,aD⟩;have aK:=Aa aD;replace a0:=aD.cell a0;replace a1:=aD.cell a1;replace a2:=aD.cell a2;replace b0:=aD.cell b0;replace b1:=aD.cell b1;replace b2:=aD.cell b2;clear aD;by_cases h0:E=0
 rotate_left
 .have hb:(E !=0)=true:=by simpa using h0
  have HR:=Aa (show PE=E from by rw[aC.o,if_pos h0]);have aF:=Aa (show PL= [] from by rw[aE.o,if_neg (by rw[HR.o];exact h0)]);clear h0;exact zca
 .obtain⟨n1,n2,n3,n4,n5,n6,n7,n8,n9,bF⟩:=bE.o h0;subst h0;by_cases hf:fr=0
  rotate_left
  .have hb:(fr !=0)=true:=by simpa using hf
   have HR:=Aa (show PE=5 from by rw[aC.o,if_neg ag,if_pos hf]);have aF:=Aa (show PL= [] from by rw[aE.o,if_neg (by rw[HR.o];decide)]);clear hf;exact zca
  .subst hf;have bC:=Aa (Gf p m ml _ w2 (bD.o.ex aK.o));have bJ:=Aa (show sl.length=pl.length from ac);have aR:=Aa (show pl.length<=64 from ac);go_wp2_with fail
   refine bC.o.mono ?_;rintro e w3⟨bH,aH⟩;rcases bH with⟨pn,mn,x0,gb,rfl,rfl,rfl,hg,x1,x2⟩|⟨hbad,-⟩
   rotate_left
   .exact absurd ((BU p m ml).1 n1) hbad
   have aJ:=Aa (aK.o.trans aH);replace b0:=aH.cell b0;replace b1:=aH.cell b1;replace b2:=aH.cell b2;have aZ:=Aa b0;have HG:=Aa hg;replace aC:=Aa (show PE=if ((0:Int)≠0) then(0:Int) else if ((0:Int)≠0) then 5 else if 64<pl.length*(pn^mn-1) then 8 else 0 from aC.o);replace aE:=Aa (show PL=if PE=0 then Hm pn mn ml pl sl else [] from aE.o);have bG:2<=pn^mn:=Nat.le_trans hg.sh.p2 (Nat.le_self_pow (by have:=hg.sh.m1;omega) pn);have aU:=hg.sh.q;have aI:=aR.o;have aQ:=Aa (fun (w5:World) (h5:Ex w3 w5) (hd:pl.length*(pn^mn-1)<=64)=>RK w5 (HG.o.ex h5) pl.length aI pl sl _ _ (HP.o.ex (aJ.o.trans h5)) (HS.o.ex (aJ.o.trans h5)) rfl bJ.o n6 hd 0);have bB:=Aa (fun (w5:World) (h5:Ex w3 w5)=>Cu w5 (HG.o.ex h5));have aL:=Aa (fun (w5:World)=>Ig w5 pl.length (pn^mn) aI ac aU);obtain⟨q,hq⟩:=nA (pn^mn);have aP:=Aa (show Hm pn mn ml pl sl=il (pl.length*(pn^mn-1)) (Pi pn mn ml pl sl) from rfl);rw[hq]at aC aQ bB aL aP bG aU;obtain⟨D,hD⟩:=nA (pl.length*(q-1));rw[hD]at aC aQ aL aP;obtain⟨T0,aV⟩:∃z,((if 64<D then 0 else D:Nat):Int)=z:=⟨_,rfl⟩;obtain⟨T1,aN⟩:∃z,(if 64<D then(8:Int) else 0)=z:=⟨_,rfl⟩;rw[aV,aN]at aL;have bA:=Aa aN;clear aV aN hD hq aH hg x1 x2 n1 n2 n3 n4 n5 n6 n7 n8 n9 bF bC bE bL aS;go_wp2_with fail
   go_upto_region 9 with fail
   refine BR (fun k=>([.pointer (some ⟨B+1,0,none⟩),.slice pa pl.length pc,.int .i64 (pl.length:Int),.pointer (some ⟨gb,0,none⟩),.int .i64 (q:Int),.tuple #[T0,T1],.tuple #[T0,T1],.int .i64 T0,.int .i64 T1,.int .i64 T0,.int .i64 T1]:List Value).getD k undef) ah ah ah ?_ ?_
   .simp only[AG];refine⟨?_,?_,?_,?_,?_,?_,?_,?_,?_,?_,?_,trivial⟩
    .refine Bu.on rfl fun L a w aB aA hd hx K hK=>?_;have e3:a.tmps[3]?=some (.pointer (some (B+1,0))):=aA 3 ah;exact zdb
    .refine Bu.on rfl fun L a w aB aA hd hx K hK=>?_;have e32:=aB 0 32 _ (hd ⟨0,.data⟩ ag rfl) rfl rfl;have c1:=hx.cell aZ.o;exact zdb
    .refine Bu.on rfl fun L a w aB aA hd hx K hK=>?_;have e33:=aB 1 33 _ (hd ⟨1,.data⟩ ag rfl) rfl rfl;exact zdb
    .refine Bu.on rfl fun L a w aB aA hd hx K hK=>?_;have e7:a.tmps[7]?=some (.pointer (some (gb,0))):=aA 7 ah;exact zdb
    .refine Bu.on rfl fun L a w aB aA hd hx K hK=>?_;have e35:=aB 3 35 _ (hd ⟨3,.data⟩ ag rfl) rfl rfl;clear aB aA hd;go_simp;refine(bB.o _ hx).mono ?_;exact zc8
    .refine Bu.on rfl fun L a w aB aA hd hx K hK=>?_;have e34:=aB 2 34 _ (hd ⟨2,.data⟩ ag rfl) rfl rfl;have e36:=aB 4 36 _ (hd ⟨4,.data⟩ ag rfl) rfl rfl;clear aB aA hd;go_simp;refine(aL.o _).mono ?_;exact zc8
    .refine Bu.on rfl fun L a w aB aA hd hx K hK=>?_;have e37:=aB 5 37 _ (hd ⟨5,.data⟩ ag rfl) rfl rfl;exact zdb
    .exact zas
    .exact zas
    .refine Bu.on rfl fun L a w aB aA hd hx K hK=>?_;have e38:=aB 7 38 _ (hd ⟨7,.data⟩ ag rfl) rfl rfl;exact zdb
    .refine Bu.on rfl fun L a w aB aA hd hx K hK=>?_;have e39:=aB 8 39 _ (hd ⟨8,.data⟩ ag rfl) rfl rfl;exact zdb
   .intro w5 aG;simp only[Cm,Act.put,List.setIfInBounds_toArray,List.set_cons_zero,List.set_cons_succ];have aO:=Aa aG;replace b0:=aG.cell b0;replace b1:=aG.cell b1;replace b2:=aG.cell b2;clear aG;by_cases hD:64<D
    .have hT:T1=8:=by rw[<-bA.o,if_pos hD]
     subst hT;have HR:=Aa (show PE=8 from by rw[aC.o,if_neg ag,if_neg ag,if_pos hD]);have aF:=Aa (show PL= [] from by rw[aE.o,if_neg (by rw[HR.o];decide)]);clear hD;go_wp2_with fail
     go_ret2;exact⟨Ow aF.o.symm HR.o.symm (AR _),HE.o.trans (aJ.o.trans aO.o)⟩
    .have hT:T1=0:=by rw[<-bA.o,if_neg hD]
     subst hT;have HR:=Aa (show PE=0 from by rw[aC.o,if_neg ag,if_neg ag,if_neg hD]);have aF:=Aa (show PL=Hm pn mn ml pl sl from by rw[aE.o,if_pos HR.o]);have bK:=Aa (aQ.o w5 aO.o ac);clear hD;go_wp2_with fail
     refine bK.o.mono ?_;rintro e w6⟨v,rfl,hv,aT⟩;have HV:=Aa (show Aj w6 v PL from by rw[aF.o,aP.o];unfold Aj;rw[Ao,Cw];exact Sl.own hv);have bI:=Aa (aO.o.trans aT);obtain⟨va,vc,rfl⟩:=Ad hv;clear hv aT;go_wp2_with fail
     go_ret2;exact⟨Ow rfl HR.o.symm HV.o,HE.o.trans (aJ.o.trans bI.o)⟩
def mpE(p m:Int)(ml:List Int)(n:Int)(P:List Int):Int:=
 if B6 p m ml≠0 then 1 else if n<1∨64<n then 4 else if 64<n.toNat*(p.toNat^m.toNat-1) then 8 else if BA P≠0 then BA P else if P.length≠n.toNat*(p.toNat^m.toNat-1) then 10 else if Ve p.toNat m.toNat ml n.toNat P=false then 5 else 0
def mpM(p m:Int)(ml:List Int)(n:Int)(P:List Int):CZ:=if mpE p m ml n P=0 then⟨il n.toNat (FS (p.toNat^m.toNat-1) P),il n.toNat (Gu (p.toNat^m.toNat-1) P),0⟩ else⟨[], [],0⟩
theorem Wp{P:List Int}(h:BA P=0):∀x∈P,0<=x/\x<(P.length:Int):=by
 intro x hx;unfold BA at h;split at h
 .cases h
 .split at h
  .cases h
  .rename_i h1;have h3:¬(x<0∨(P.length:Int)<=x):=fun h2=>h1 ⟨x,hx,h2⟩;omega
theorem Lu{M:CZ}{e e':Int}{w':World}(h1:M=⟨[], [],0⟩)(h2:e=e'):MoR M e (.returned (.tuple #[.agg #[.slice none 0 0,.slice none 0 0,(0:Int)],e'])) w':=by subst h1 h2;exact⟨_,_,rfl,AR _,AR _⟩
theorem zbe{P:Prop}(h:P:=by
 clear HG;go_wp2_with fail
 exact bodyPost_ret (v:= .tuple #[.agg #[.slice none 0 0,.slice none 0 0,(0:Int)],(4:Int)]) (by simp[results,Tryz.results17,go_sem,q0,q1,q2]) rfl ⟨Lu (aC.o 4 (by decide) HR.o) HR.o,Co (HE.o.trans aB.o) aA.o _ _ _⟩):P:=h
theorem ax{P:Prop}(h:P:=by simp[results,Tryz.results17,go_sem,q0,q1,q2]):P:=h
theorem Map_any(w:World)(p m:Int)(ml:List Int)(mv:Value)(aR:Aj w mv ml)(n:Int)(hn:-9223372036854775808<=n/\n<=9223372036854775807)(P:List Int)(pv:Value)(hp:Aj w pv P):
  Calls Tryz.prog 17 #[.agg #[p,m,mv],n,pv] w fun r w'=>MoR (mpM p m ml n P) (mpE p m ml n P) r w'/\Ex w w':=by
 obtain⟨a0,a1,a2,ea⟩:=Gb w p m mv;obtain⟨BX,aG⟩:∃B,w.heap.size=B:=⟨_,rfl⟩;have bI:(w.alloc (.cells #[p,m,mv] 24)).heap.size=BX+1:=by simp[aG]
 have bq:=BxM.new (w.alloc (.cells #[p,m,mv] 24));rw[bI]at bq;have eb:=(Ex.refl (w.alloc (.cells #[p,m,mv] 24))).alloc (.cells #[.slice none 0 0,.slice none 0 0,(0:Int)] 26);replace a0:=eb.cell a0;replace a1:=eb.cell a1;replace a2:=eb.cell a2;have HE:=Aa (ea.trans eb);have bY:=Aa (aR.ex HE.o);have HP:=Aa (hp.ex HE.o);obtain⟨ma,mc,rfl,_,_,_⟩:=aR.open;obtain⟨pa,pc,rfl,_,z2,_⟩:=hp.open;unfold maxLen at z2;rw[aG]at a0 a1 a2;have aA:=Aa (show w.heap.size<=BX+1 from ac);have bU:=Aa (show((w.alloc (.cells #[p,m,.slice ma ml.length mc] 24)).alloc (.cells #[.slice none 0 0,.slice none 0 0,(0:Int)] 26)).heap.size=BX+1+1 from by simp[aG]);have BQ:=Aa bq;obtain⟨ME,aM⟩:∃x,mpE p m ml n P=x:=⟨_,rfl⟩;obtain⟨MM,aS⟩:∃x,mpM p m ml n P=x:=⟨_,rfl⟩;have aK:=Aa aM;have aY:=Aa (show MM=if ME=0 then⟨il n.toNat (FS (p.toNat^m.toNat-1) P),il n.toNat (Gu (p.toNat^m.toNat-1) P),0⟩ else⟨[], [],0⟩ from by rw[<-aS,<-aM];rfl);have aC:=Aa (show ∀e,e≠0->ME=e->MM=⟨[], [],0⟩ from fun e h1 h2=>by rw[aY.o,if_neg (by rw[h2];exact h1)]);rw[aM,aS];clear aM aS aR hp ea eb bq bI;go_enter Tryz.func17,Tryz.ntmps17
 go_upto_region 1 with fail
 try simp only[aG]
 clear aG;generalize (w.alloc (.cells #[p,m,.slice ma ml.length mc] 24)).alloc (.cells #[.slice none 0 0,.slice none 0 0,(0:Int)] 26)=w1 at *;have bM:=Aa (Gf p m ml _ w1 bY.o);go_wp2_with fail
 refine bM.o.mono ?_;rintro e w2⟨bR,aL⟩;obtain⟨q0,q1,q2,aQ,aP,aO⟩:=BQ.o.ex aL;have aB:=Aa aL;rcases bR with⟨pn,mn,x0,gb,rfl,rfl,rfl,hg,x1,x2⟩|⟨hbad,rfl⟩
 rotate_left
 .have HR:=Aa (show ME=1 from by rw[<-aK.o];unfold mpE;rw[if_pos (fun h=>hbad ((BU p m ml).1 h))]);clear aL hbad;go_wp2_with fail
  exact bodyPost_ret (v:= .tuple #[.agg #[.slice none 0 0,.slice none 0 0,(0:Int)],(1:Int)]) ax rfl ⟨Lu (aC.o 1 ae HR.o) HR.o,Co (HE.o.trans aB.o) aA.o _ _ _⟩
 .have aZ:=Aa (show B6 (pn:Int) mn ml=0 from(BU _ _ _).2 ⟨pn,mn,rfl,rfl,hg.sh,hg.pr,hg.isF x1 x2⟩);have HG:=Aa hg;have bC:2<=pn^mn:=Nat.le_trans hg.sh.p2 (Nat.le_self_pow (by have:=hg.sh.m1;omega) pn);have bB:=hg.sh.q;have aV:=Aa (show 2<=pn^mn/\pn^mn<=256 from⟨bC,bB⟩);clear hg x1 x2 aL bM bC bB;by_cases hn1:n<1
  .have HR:=Aa (show ME=4 from by rw[<-aK.o];unfold mpE;rw[if_neg (by rw[aZ.o];decide),if_pos (.inl hn1)]);exact zbe
  by_cases hn64:64<n
  .have HR:=Aa (show ME=4 from by rw[<-aK.o];unfold mpE;rw[if_neg (by rw[aZ.o];decide),if_pos (.inr hn64)]);exact zbe
  obtain⟨N,rfl⟩:∃N:Nat,n=N:=⟨n.toNat,ac⟩;have HN:=Aa (show 1<=N/\N<=64 from ac);have aJ:=Aa (show ME=if 64<N*(pn^mn-1) then 8 else if BA P≠0 then BA P else if P.length≠N*(pn^mn-1) then 10 else if Ve pn mn ml N P=false then 5 else 0 from by
   rw[<-aK.o];unfold mpE;rw[if_neg (by rw[aZ.o];decide),if_neg ac];rfl)
  have bN:=Aa (show MM=if ME=0 then⟨il N (FS (pn^mn-1) P),il N (Gu (pn^mn-1) P),0⟩ else⟨[], [],0⟩ from aY.o);clear aY aK;obtain⟨q,hq⟩:=nA (pn^mn);have aW:=Aa (Cu w2 HG.o);have aD:=Aa (Ig w2 N (pn^mn) HN.o.2 (by have:=aV.o;omega) aV.o.2);have aN:=Aa (fun (w5:World) (h5:Ex w2 w5) (h1:N*(pn^mn-1)<=64) (h2:P.length=N*(pn^mn-1)) (h3:BA P=0)=>Qu w5 (HG.o.ex h5) N HN.o.1 HN.o.2 P _ (HP.o.ex (aB.o.trans h5)) h1 h2 (Wp h3));rw[hq]at aJ bN aW aD aN aV;obtain⟨D,hD⟩:=nA (N*(q-1));rw[hD]at aJ aD aN;clear hq hD;by_cases h8:64<D
  .rw[if_pos h8,if_pos h8]at aD;have HR:=Aa (show ME=8 from by rw[aJ.o,if_pos h8]);clear h8;go_wp2_with (first|(go_at_call 54;refine aW.o.mono ?_;rintro e w5⟨rfl,rfl⟩)|(go_at_call 53;refine aD.o.mono ?_;rintro e w5⟨rfl,rfl⟩))
   exact bodyPost_ret (v:= .tuple #[.agg #[.slice none 0 0,.slice none 0 0,(0:Int)],(8:Int)]) ax rfl ⟨Lu (aC.o 8 ae HR.o) HR.o,Co (HE.o.trans aB.o) aA.o _ _ _⟩
  rw[if_neg h8,if_neg h8]at aD;have bX:=Aa h8;have aI:=Aa (show ME=if BA P≠0 then BA P else if P.length≠D then 10 else if Ve pn mn ml N P=false then 5 else 0 from by rw[aJ.o,if_neg h8]);have bP:=Aa (FR w2 P _ (HP.o.ex aB.o));obtain⟨K,hK⟩:=nA (BA P);have HK:=Aa hK;rw[hK]at bP aI;clear h8 aJ hK;go_wp2_with (first|(go_at_call 54;refine aW.o.mono ?_;rintro e w5⟨rfl,rfl⟩)|(go_at_call 53;refine aD.o.mono ?_;rintro e w5⟨rfl,rfl⟩))
  refine bP.o.mono ?_;rintro e w3⟨rfl,aE⟩;have aH:=Aa (aB.o.trans aE);obtain⟨q0,q1,q2,aQ,aP,aO⟩:=BQ.o.ex aH.o;by_cases h0:K=0
  rotate_left
  .have hb:(K==0)=false:=by simpa using h0
   have hb2:(K !=0)=true:=by simpa using h0
   have HR:=Aa (show ME=K from by rw[aI.o,if_pos h0]);have bV:=Aa (aC.o K h0 HR.o);clear h0 aE;go_wp2_with fail
   exact bodyPost_ret (v:= .tuple #[.agg #[.slice none 0 0,.slice none 0 0,(0:Int)],K]) ax rfl ⟨Lu bV.o HR.o,Co (HE.o.trans aH.o) aA.o _ _ _⟩
  subst h0;by_cases hl:P.length=D
  rotate_left
  .have hb:((P.length:Int) !=(D:Int))=true:=by simp;omega
   have HR:=Aa (show ME=10 from by rw[aI.o,if_neg ag,if_pos hl]);clear hl aE;go_wp2_with fail
   exact bodyPost_ret (v:= .tuple #[.agg #[.slice none 0 0,.slice none 0 0,(0:Int)],(10:Int)]) ax rfl ⟨Lu (aC.o 10 ae HR.o) HR.o,Co (HE.o.trans aH.o) aA.o _ _ _⟩
  have hb:((P.length:Int) !=(D:Int))=false:=aq;have bO:=Aa (aN.o w3 aE (by have:=bX.o;omega) hl HK.o);have aU:=Aa (show ME=if Ve pn mn ml N P=false then 5 else 0 from by rw[aI.o,if_neg ag,if_neg (by rw[hl];simp)]);obtain⟨BE,bH⟩:∃b,Ve pn mn ml N P=b:=⟨_,rfl⟩;rw[bH]at bO aU;clear hl aE aI bH aN;go_wp2_with fail
  refine bO.o.mono ?_;rintro e w4⟨u,v,rfl,hu,hv,⟨bE,bD⟩,bA⟩;obtain⟨bQ,bJ,bL,bK⟩:=Eq (show BX+1<w3.heap.size from by have:=aH.o.size;have:=bU.o;omega) (aH.o.trans bA) bE bD;clear bE bD;obtain⟨q0,q1,q2,aQ,aP,aO⟩:=BQ.o.ex bJ.o;have HU:=Aa hu;have HV:=Aa hv;obtain⟨ua,uc,rfl,_,_,_⟩:=hu.open;obtain⟨va,vc,rfl,_,_,_⟩:=hv.open;obtain⟨TB,aF⟩:∃x,w4.heap.size=x:=⟨_,rfl⟩;obtain⟨LU,bG⟩:∃x,(il N (FS (q-1) P)).length=x:=⟨_,rfl⟩;obtain⟨LV,bF⟩:∃x,(il N (Gu (q-1) P)).length=x:=⟨_,rfl⟩;rw[bG]at HU bL ⊢;rw[bF]at HV bK ⊢;obtain⟨t0,t1,t2,et⟩:=Bh w4 (.slice ua LU uc) (.slice va LV vc) 0;rw[aF]at t0 t1 t2;have aT:=Aa (bJ.o.trans et);obtain⟨q0,q1,q2,aQ,aP,aO⟩:=BQ.o.ex aT.o;have bT:=Aa (HU.o.ex et);have bS:=Aa (HV.o.ex et);have HTB:=Aa aF;clear hu hv bA bG bF et
  cases BE with
  | false=>
   have HR:=Aa (show ME=5 from by rw[aU.o];rfl);go_wp2_with fail
   try simp only[aF]
   exact bodyPost_ret (v:= .tuple #[.agg #[.slice none 0 0,.slice none 0 0,(0:Int)],(5:Int)]) ax rfl ⟨Lu (aC.o 5 ae HR.o) HR.o,Co (HE.o.trans aT.o) aA.o _ _ _⟩
  | true=>
   have HR:=Aa (show ME=0 from by rw[aU.o];rfl);have HM:=Aa (show MM=⟨il N (FS (q-1) P),il N (Gu (q-1) P),0⟩ from by rw[bN.o,if_pos HR.o]);go_upto_region 14 with fail
   try simp only[aF]
   clear aF;generalize w4.alloc (.cells #[.slice ua LU uc,.slice va LV vc,(0:Int)] 26)=w5 at *;go_wp2_with fail
   have bW:=HR.o;have aX:=HM.o;subst bW;subst aX;exact bodyPost_ret (v:= .tuple #[.agg #[.slice ua LU uc,.slice va LV vc,(0:Int)],(0:Int)]) ax rfl ⟨⟨_,_,rfl,Fs bT.o (fun X e=>by have:=bL.o X e;have:=bQ.o;omega) _ _ _,Fs bS.o (fun X e=>by have:=bK.o X e;have:=bQ.o;omega) _ _ _⟩,Co (HE.o.trans aT.o) aA.o _ _ _⟩
section
variable {p m:Nat} {ml:List Int} {N:Nat}
theorem Tj(hp:2<=p)(sc:List Int)(x:Nat->Int)(N:Nat):JD p m N (Gl p m ml sc x):=fun j _=>by
 have:=Bc (m:=m) (low:=lw ml) (show 1<=p by omega) (Av (p^m) (sc.getD j 0)) (Av (p^m) (x j));unfold Gl;omega
theorem S0{tl:List Int}{y:Nat->Int}{n:Nat}(hr:BD tl n=true)(hy:JD p m n y):JD p m tl.length (Jc tl y):=fun j hj=>by
 have:=Dy hr hj;exact hy _ ac
theorem KZ{l:List (List Int)}{n:Nat}(hl:∀r∈l,r.length=n/\Ce (p^m) r=0){i:Nat}(hi:i<l.length):JD p m n (An l i):=fun j hj=>by
 have h1:l.getD i []=l[i]:=aw;obtain⟨h2,h3⟩:=hl _ (List.getElem_mem hi);unfold An;rw[h1];exact L9 h3 _ (by rw[List.getD_eq_getElem?_getD,List.getElem?_eq_getElem ac];exact List.getElem_mem _)
def Ph(p m:Nat)(ml:List Int)(l1 l2:List (List Int))(tl sc:List Int):Prop:=
 ∀x,Cb p m ml tl.length l2.length (fun i=>Jc tl (An l2 i)) x↔Cb p m ml tl.length l1.length (fun i=>Gl p m ml sc (An l1 i)) x
structure Vy(p m:Nat)(ml:List Int)(n:Nat)(l1 l2:List (List Int)):Prop where
 hp:2<=p
 hm:1<=m
 hF:Hr p m (lw ml)
 h1:∀r∈l1,r.length=n/\Ce (p^m) r=0
 h2:∀r∈l2,r.length=n/\Ce (p^m) r=0
variable {l1 l2:List (List Int)} {n:Nat} {tl sc:List Int}
theorem Vy.spL(h:Vy p m ml n l1 l2)(t:Nat)(sc:List Int):QZ p m ml t l1.length (fun i=>Gl p m ml sc (An l1 i)) (Ht p m ml t (fun i=>Gl p m ml sc (An l1 i)) l1.length):=
 Rj h.hp h.hm h.hF (K:=l1.length) (fun i _=>Tj h.hp _ _ _) _ (Nat.le_refl _)
theorem Vy.spR(h:Vy p m ml n l1 l2)(hr:BD tl n=true):QZ p m ml tl.length l2.length (fun i=>Jc tl (An l2 i)) (Ht p m ml tl.length (fun i=>Jc tl (An l2 i)) l2.length):=
 Rj h.hp h.hm h.hF (K:=l2.length) (fun i hi=>S0 hr (KZ h.h2 hi)) _ (Nat.le_refl _)
theorem Vy.mis0(h:Vy p m ml n l1 l2)(hr:BD tl n=true):Jp p m ml tl.length (Ht p m ml tl.length (fun i=>Jc tl (An l2 i)) l2.length) (fun i=>Gl p m ml sc (An l1 i)) l1.length<0↔∀x,Cb p m ml tl.length l2.length (fun i=>Jc tl (An l2 i)) x->Cb p m ml tl.length l1.length (fun i=>Gl p m ml sc (An l1 i)) x:=by
 rw[P9 h.hp h.hm (h.spR hr) fun i _=>Tj h.hp _ _ _];exact Cl.sol_iff
theorem Vy.mis1(h:Vy p m ml n l1 l2)(hr:BD tl n=true):Jp p m ml tl.length (Ht p m ml tl.length (fun i=>Gl p m ml sc (An l1 i)) l1.length) (fun i=>Jc tl (An l2 i)) l2.length<0↔∀x,Cb p m ml tl.length l1.length (fun i=>Gl p m ml sc (An l1 i)) x->Cb p m ml tl.length l2.length (fun i=>Jc tl (An l2 i)) x:=by
 rw[P9 h.hp h.hm (h.spL _ sc) fun i hi=>S0 hr (KZ h.h2 hi)];exact Cl.sol_iff
theorem Vy.wit(h:Vy p m ml n l1 l2)(hr:BD tl n=true):(Fi p m ml l1 l2 tl sc).1<0↔Ph p m ml l1 l2 tl sc:=by
 have e0:=h.mis0 (sc:=sc) hr;have e1:=h.mis1 (sc:=sc) hr;unfold Fi;simp only;split
 .rename_i h0;refine⟨fun h=>absurd h ag,fun hc=>?_⟩;have:=e0.2 fun x hx=>(hc x).1 hx;omega
 .rename_i h0;split
  .rename_i h1;refine⟨fun h=>absurd h ag,fun hc=>?_⟩;have:=e1.2 fun x hx=>(hc x).2 hx;omega
  .rename_i h1;refine⟨fun _ x=>⟨e0.1 ac x,e1.1 ac x⟩,fun _=>ag⟩
end
theorem Qg{p m:Nat}(hp:1<=p){g:Nat->Nat}{K:Nat}:∀n,K<=n->(∀j,K<=j->j<n->g j=0)->ks p m g n=ks p m g K
 | 0,h,_=>by
   obtain rfl:K=0:=ac;rfl
 | n+1,h,hz=>by
  by_cases e:K=n+1
  .rw[e]
  .show AH p m (ks p m g n) (g n)=_
   rw[hz n ac ac,Cg hp (ks_lt hp _ _)];exact Qg hp n ac fun j h1 h2=>hz j h1 ac
theorem QE{p m:Nat}{ml:List Int}(hp:1<=p){n K:Nat}(hK:K<=n)(f x:Nat->Int):dt p m ml n f (fun i=>if i<K then x i else 0)=dt p m ml K f x:=by
 rw[Hx,Hx,Qg hp n hK fun j h1 _=>by
  show Al p m (lw ml) _ (Av (p^m) (if j<K then x j else 0))=0
  rw[if_neg ac,CM,Be hp]]
 exact GH K fun j hj=>by rw[if_pos hj]
structure A8(p m:Nat)(ml:List Int)(n:Nat)(l1 l2:List (List Int))(pl sl:List Int):Prop where
 pll:pl.length=n
 sll:sl.length=n
 nn:∀i,i<n->0<=pl.getD i 0
 inj:Gg n (BH pl)
 sc:∀i,i<n->∃z:Nat,sl.getD i 0=z/\1<=z/\z<p^m
 sol:∀x,Cb p m ml n l2.length (An l2) x↔Cb p m ml n l1.length (fun i=>plc (BH pl) (Gl p m ml sl (An l1 i)) n) x
section
variable {p m:Nat} {ml:List Int} {n:Nat} {l1 l2:List (List Int)} {pl sl:List Int}
theorem Cp{l:List Int}{K j:Nat}(hj:j<K):(l.take K).getD j 0=l.getD j 0:=by
 rw[List.getD_eq_getElem?_getD,List.getElem?_take_of_lt hj,<-List.getD_eq_getElem?_getD]
theorem A8.rng(h:A8 p m ml n l1 l2 pl sl)(K:Nat):BD (pl.take K) n=true:=by
 unfold BD;refine List.all_eq_true.2 fun x hx=>?_;obtain⟨i,hi,rfl⟩:=List.getElem_of_mem (List.mem_of_mem_take hx);have h1:=h.nn i (by have:=h.pll;omega);have h2:=h.inj.lt i (by have:=h.pll;omega);unfold BH at h2;have e:pl.getD i 0=pl[i]:=by rw[List.getD_eq_getElem?_getD,List.getElem?_eq_getElem hi];rfl
 rw[e]at h1 h2;simp;omega
theorem A8.compat(h:A8 p m ml n l1 l2 pl sl)(hp:2<=p){K:Nat}(hK:K<=n):Ph p m ml l1 l2 (pl.take K) (sl.take K):=by
 have hl:(pl.take K).length=K:=by rw[List.length_take,h.pll];omega
 intro x;rw[hl];have hz:∀i,i<n->plc (BH pl) (fun i=>if i<K then x i else 0) n (BH pl i)=if i<K then x i else 0:=fun i hi=>Lh h.inj _ n (Nat.le_refl _) i hi;have e2:∀i,dt p m ml n (An l2 i) (plc (BH pl) (fun i=>if i<K then x i else 0) n)=dt p m ml K (Jc (pl.take K) (An l2 i)) x:=fun i=>by
  rw[Kt,OV ac h.inj,Kt,QE ac hK];refine GU (fun j hj=>?_) fun _ _=>rfl;unfold Jc BH;rw[Cp hj]
 have e1:∀i,dt p m ml n (plc (BH pl) (Gl p m ml sl (An l1 i)) n) (plc (BH pl) (fun i=>if i<K then x i else 0) n)=dt p m ml K (Gl p m ml (sl.take K) (An l1 i)) x:=fun i=>by
  rw[OV ac h.inj,GU (fun _ _=>rfl) hz,QE ac hK];refine GU (fun j hj=>?_) fun _ _=>rfl;unfold Gl;rw[Cp hj]
 have:=h.sol (plc (BH pl) (fun i=>if i<K then x i else 0) n);constructor
 .intro hx i hi;rw[<-e1 i];exact this.1 (fun i hi=>by rw[e2 i];exact hx i hi) i hi
 .intro hx i hi;rw[<-e2 i];exact this.2 (fun i hi=>by rw[e1 i];exact hx i hi) i hi
theorem A8.of(hp:2<=p)(h1:pl.length=n)(h2:sl.length=n)(h3:∀i,i<n->0<=pl.getD i 0)(h4:Gg n (BH pl))(h5:∀i,i<n->∃z:Nat,sl.getD i 0=z/\1<=z/\z<p^m)(hc:Ph p m ml l1 l2 pl sl):A8 p m ml n l1 l2 pl sl:=by
 refine⟨h1,h2,h3,h4,h5,fun x=>?_⟩;have e2:∀i,dt p m ml n (Jc pl (An l2 i)) (fun i=>x (BH pl i))=dt p m ml n (An l2 i) x:=fun i=>by
  rw[Hx,Hx,<-h4.sum ac (g:=fun j=>Al p m (lw ml) (Av (p^m) (An l2 i j)) (Av (p^m) (x j))) fun j=>Bc ac _ _];rfl
 have e1:∀i,dt p m ml n (plc (BH pl) (Gl p m ml sl (An l1 i)) n) x=dt p m ml n (Gl p m ml sl (An l1 i)) (fun i=>x (BH pl i)):=fun i=>OV ac h4 _ _;have:=hc (fun i=>x (BH pl i));rw[h1]at this;constructor
 .intro hx i hi;show dt p m ml n (plc (BH pl) (Gl p m ml sl (An l1 i)) n) x=0
  rw[e1 i];exact this.1 (fun i hi=>by show dt p m ml n (Jc pl (An l2 i)) _=0;rw[e2 i];exact hx i hi) i hi
 .intro hx i hi;rw[<-e2 i];exact this.2 (fun i hi=>by rw[<-e1 i];exact hx i hi) i hi
end
section
variable {σ:Type} {step:σ->List Int->List Int->σ × Int} {tl sc:List Int}
end
section
variable {p m:Nat} {ml:List Int} {n:Nat} {l1 l2:List (List Int)} {pl sl:List Int}
theorem A8.step(h:A8 p m ml n l1 l2 pl sl){K:Nat}(hK:K<n):∃a:Nat,1<=a/\a<=p^m-1/\pl.getD K 0=((BH pl K:Nat):Int)/\sl.getD K 0=(a:Int)/\BH pl K<n/\(pl.take K).contains ((BH pl K:Nat):Int)=false/\pl.take (K+1)=pl.take K ++ [((BH pl K:Nat):Int)]/\sl.take (K+1)=sl.take K ++ [(a:Int)]:=by
 obtain⟨a,ha,a1,a2⟩:=h.sc K hK;have hn:=h.nn K hK;have e1:((BH pl K:Nat):Int)=pl.getD K 0:=by unfold BH;omega
 refine⟨a,a1,ac,e1.symm,ha,h.inj.lt K hK,?_,?_,?_⟩
 .cases hcon:(pl.take K).contains ((BH pl K:Nat):Int) with
  | false=>rfl
  | true=>
   exfalso;have aA:=List.contains_iff_mem.1 hcon;obtain⟨i,hi,e⟩:=List.getElem_of_mem aA;rw[List.length_take,h.pll]at hi;rw[List.getElem_take]at e;have e2:pl.getD i 0=pl[i]'(by have:=h.pll;omega):=by rw[List.getD_eq_getElem?_getD,List.getElem?_eq_getElem];rfl
   have:=h.inj.inj i K ac hK (by
    show(pl.getD i 0).toNat=_
    rw[e2,e];simp)
   omega
 .rw[List.take_add_one,List.getElem?_eq_getElem (by have:=h.pll;omega),e1,List.getD_eq_getElem?_getD,List.getElem?_eq_getElem (by have:=h.pll;omega)];rfl
 .rw[List.take_add_one,List.getElem?_eq_getElem (by have:=h.sll;omega),<-ha,List.getD_eq_getElem?_getD,List.getElem?_eq_getElem (by have:=h.sll;omega)];rfl
end
theorem IU{p m n:Int}{ml:List Int}{rows:List (List Int)}(h:BK p m ml n rows 0):∃pn mn N:Nat,p=pn/\m=mn/\n=N/\Hh pn mn ml/\Hr pn mn (lw ml)/\1<=N/\N<=64/\rows.length<=256/\∀r∈rows,r.length=N/\Ce (pn^mn) r=0:=by
 obtain⟨hF,hn1,hn2⟩:=Eh h;rcases h with⟨_,h⟩|⟨_,h1,h2⟩|⟨h1,h2,h3⟩
 .cases h
 .exact absurd h2.symm h1
 .rcases h3 with⟨h3,h4⟩|⟨_,pn,mn,N,piv,a',rfl,rfl,rfl,_,hm,_⟩
  .exact absurd h4.symm h3
  .obtain⟨p1,m1,e1,e2,aA,_,hI⟩:=hF;obtain rfl:pn=p1:=by omega
   obtain rfl:mn=m1:=ac;obtain⟨_,_,s3,s4⟩:=EP hm;exact⟨pn,mn,N,rfl,rfl,rfl,aA,hI,ac,ac,s3,fun r hr=>⟨by have:=(s4 r hr).1;omega,(s4 r hr).2⟩⟩
theorem JR{N k i j:Nat}{a:Nat->Nat->Int}(hi:i<k)(hj:j<N):An (Au N k a) i j=a i j:=by
 unfold An;rw[List.getD_eq_getElem?_getD (l:=Au N k a),Dq hi];exact GT hj _
theorem elO_sol{p m:Nat}{ml:List Int}{N R:Nat}{a a':Nat->Nat->Int}{piv:List Nat}(hp:2<=p)(h:Hk p m ml N R a a' piv)(x:Nat->Int):Cb p m ml N (Au N piv.length a').length (An (Au N piv.length a')) x↔Cb p m ml N R a x:=by
 obtain⟨c,hc,hP,aA,hS⟩:=h;rw[<-hS x,AL];have e:∀i,i<piv.length->dt p m ml N (An (Au N piv.length a') i) x=dt p m ml N (a' i) x:=fun i hi=>GU (fun j hj=>JR hi hj) fun _ _=>rfl;constructor
 .intro h i hi;by_cases hip:i<piv.length
  .rw[<-e i hip];exact h i hip
  .refine Hf hp fun j hj=>?_;rcases aA with h1|h1
   .omega
   .exact hP.tail i j ac hi ac
 .intro h i hi;rw[e i hi];exact h i (by have:=hP.le;omega)
theorem UC{p m:Nat}{ml pl ul:List Int}{N:Nat}{l1:List (List Int)}{i j:Nat}(hp:2<=p)(hm:1<=m)(hi:i<l1.length)(hj:j<N):An (E3 p m ml pl ul 0 N l1 l1.length) i j=plc (BH pl) (Gl p m ml ul (An l1 i)) N j:=by
 have e:(E3 p m ml pl ul 0 N l1 l1.length).getD i []=il N (LQ p m ml pl ul 0 (l1.getD i []) N):=by
  unfold E3;rw[List.getD_eq_getElem?_getD,List.getElem?_map,List.getElem?_take_of_lt hi,List.getElem?_eq_getElem hi,List.getD_eq_getElem?_getD,List.getElem?_eq_getElem hi];rfl
 show((E3 p m ml pl ul 0 N l1 l1.length).getD i []).getD j 0=_
 rw[e,GT hj];rfl
theorem SU{p m:Nat}{ml pl ul:List Int}{N:Nat}{l1:List (List Int)}(hp:2<=p)(hm:1<=m)(x:Nat->Int):Cb p m ml N (E3 p m ml pl ul 0 N l1 l1.length).length (An (E3 p m ml pl ul 0 N l1 l1.length)) x↔Cb p m ml N l1.length (fun i=>plc (BH pl) (Gl p m ml ul (An l1 i)) N) x:=by
 rw[Hd (Nat.le_refl _)];have e:∀i,i<l1.length->dt p m ml N (An (E3 p m ml pl ul 0 N l1 l1.length) i) x=dt p m ml N (plc (BH pl) (Gl p m ml ul (An l1 i)) N) x:=fun i hi=>GU (fun j hj=>UC hp hm hi hj) fun _ _=>rfl;exact⟨fun h i hi=>by show dt p m ml N (plc _ _ N) x=0;rw[<-e i hi];exact h i hi,fun h i hi=>by rw[e i hi];exact h i hi⟩
theorem Pv{p m:Nat}{ml pl ul:List Int}{N:Nat}{l1 l2:List (List Int)}(h:Bo p m ml pl ul 0 N)(h0:∀i,i<N->0<=pl.getD i 0){a':Nat->Nat->Int}{piv:List Nat}(aA:Hk p m ml N (E3 p m ml pl ul 0 N l1 l1.length).length (An (E3 p m ml pl ul 0 N l1 l1.length)) a' piv)(hd:Au N piv.length a'=l2):A8 p m ml N l1 l2 pl ul:=by
 refine⟨h.pll,h.sll,h0,h.inj,h.sc,fun x=>?_⟩;rw[<-hd,elO_sol h.hp aA x];exact SU h.hp h.hm x
theorem Iw{pl tl:List Int}(h:tl.length<=pl.length)(aA:∀i,i<tl.length->pl.getD i 0=tl.getD i 0):pl.take tl.length=tl:=by
 refine List.ext_getElem bp fun i h1 h2=>?_;have:=aA i h2;rw[List.getD_eq_getElem?_getD,List.getElem?_eq_getElem ac,List.getD_eq_getElem?_getD,List.getElem?_eq_getElem h2]at this;rw[List.getElem_take];exact this
theorem Ma{p m:Nat}{ml:List Int}{N R R2:Nat}{a b a1 a2:Nat->Nat->Int}{aA piv2:List Nat}(hp:2<=p)(hm:1<=m)(aB:∀x,Cb p m ml N R a x↔Cb p m ml N R2 b x)(h1:Hk p m ml N R a a1 aA)(h2:Hk p m ml N R2 b a2 piv2):Au N aA.length a1=Au N piv2.length a2/\aA=piv2:=by
 obtain⟨c1,x1,y1,z1,s1⟩:=h1;obtain⟨c2,x2,y2,z2,s2⟩:=h2;obtain⟨e1,e2⟩:=Zd (ml:=ml) hp hm ⟨c1,x1,y1,z1⟩ ⟨c2,x2,y2,z2⟩ fun x=>((s1 x).trans (aB x)).trans (s2 x).symm;subst e1;refine⟨List.map_congr_left fun i hi=>List.map_congr_left fun j hj=>e2 i (List.mem_range.1 hi) j (List.mem_range.1 hj),rfl⟩
theorem IR{p m:Nat}{ml:List Int}{N R:Nat}{a:Nat->Nat->Int}{piv:List Nat}{c:Nat}(h:PV p m R N a piv c)(hc:c<=N)(hr:piv.length=R):Hk p m ml N R a a piv:=⟨c,hc,h,.inl hr,fun x=>Iff.rfl⟩
theorem Ch{p m n:Int}{ml:List Int}{rows:List (List Int)}{e e':Int}(h:BK p m ml n rows e)(h':BK p m ml n rows e'):e=e':=by
 rcases h with⟨a,rfl⟩|⟨a,b,rfl⟩|⟨a,b,h⟩ <;> rcases h' with⟨a',rfl⟩|⟨a',b',rfl⟩|⟨a',b',h'⟩ <;> first|rfl|contradiction|skip
 rcases h with⟨c,rfl⟩|⟨c,pn,mn,N,piv,a1,rfl,rfl,rfl,hF,_,hE,rfl⟩ <;> rcases h' with⟨c',rfl⟩|⟨c',pn',mn',N',piv',a1',e1,e2,e3,hF',_,aB,rfl⟩ <;> first|rfl|contradiction|skip
 obtain rfl:pn'=pn:=ac;obtain rfl:mn'=mn:=ac;obtain rfl:N'=N:=ac;obtain⟨p1,m1,e1,e2,aA,_⟩:=hF;obtain rfl:p1=pn':=ac;obtain rfl:m1=mn':=ac;rw[(Ma aA.p2 aA.m1 (fun _=>Iff.rfl) hE aB).1]
theorem Wk{p m N q:Nat}{r:List Int}(hq:q<N)(h0:∀j,j<N->0<=r.getD j 0/\r.getD j 0<((p^m:Nat):Int))(h1:r.getD q 0=1)(h2:∀k,k<q->r.getD k 0=0):PV p m 1 N (An [r]) [q] (q+1) where
 le:=ag
 rng:=fun i hi j hj=>by
  obtain rfl:i=0:=ac;exact h0 j hj
 lt:=fun j q' h=>by
  rcases j with _|j
  .simp at h;omega
  .simp at h
 one:=fun j q' h=>by
  rcases j with _|j
  .simp at h;subst h;exact h1
  .simp at h
 zer:=fun j q' i h hi hne=>by
  rcases j with _|j
  .omega
  .simp at h
 tail:=fun i j h hi _=>by simp at h;omega
 lead:=fun j q' k h hk=>by
  rcases j with _|j
  .simp at h;subst h;exact h2 k hk
  .simp at h
 asc:=fun i j q' r' hij h h'=>by
  rcases j with _|j
  .omega
  .simp at h'
theorem il_row{N:Nat}{r:List Int}(h:r.length=N):il N (An [r] 0)=r:=by
 subst h;refine List.ext_getElem? fun j=>?_;by_cases hj:j<r.length
 .rw[AQ hj,List.getElem?_eq_getElem hj];show some (r.getD j 0)=_
  rw[List.getD_eq_getElem?_getD,List.getElem?_eq_getElem hj];rfl
 .exact zaM
theorem QL{p m N q:Nat}{ml:List Int}{r:List Int}{e:Int}(hF:FP p m ml)(hc:Dx p m ml N [r]=0)(hl:Ew N=0)(hk:BV (p^m) N [r]=0)(hr:r.length=N)(hv:PV p m 1 N (An [r]) [q] (q+1))(hq:q<N)(h:BK p m ml N [r] e):e=0:=by
 have aA:B6 p m ml=0:=by
  apply Classical.byContradiction;intro h;unfold Dx at hc;rw[if_pos h]at hc;cases hc
 refine Ch h (.inr (.inr ⟨aA,hl,.inr ⟨hc,p,m,N, [q],An [r],rfl,rfl,rfl,hF,hk,IR hv ac rfl,?_⟩⟩));rw[if_pos];show [il N (An [r] 0)]= [r]
 rw[il_row hr]
def eC:AZ:=⟨2,1, [],3, [[1,1,0]]⟩
theorem e21:FP 2 1 []:=⟨2,1,rfl,rfl,⟨ac,ac,ac,ae,rfl,by intro x hx;cases hx⟩,ae,(He (p:=2) (m:=1) (ml:= []) ⟨ac,ac,ac,ae,rfl,by intro x hx;cases hx⟩ ae).2 (.inl rfl)⟩
theorem XL:PV 2 1 1 3 (An [[1,1,0]]) [0] 1:=Wk ac ae rfl ae
theorem OU{e:Int}(h:BK 2 1 [] 3 [[1,1,0]] e):e=0:=QL (p:=2) (m:=1) (N:=3) e21 ak ak ak rfl XL ac h
theorem W7{w:World}{v:Value}(h:Aj w v []):∃a c,v= .slice a 0 c:=by
 obtain⟨a,c,rfl,_⟩:=h.open;exact⟨a,c,rfl⟩
theorem B9.vals{w:World}{v:Value}{rows:List (List Int)}(h:B9 w v rows):∃us:List Value,Sl w v rows.length 1 us/\us.length=rows.length/\∀(i:Nat) (r:List Int) (u:Value),rows[i]?=some r->us[i]?=some u->Aj w u r:=by
 obtain⟨vals,h1,h2⟩:=h;exact⟨vals,h1,by have:=h1.1;omega,h2⟩
theorem Vd(w:World)(B:Nat)(n:Int)(a:Option Addr)(l cap:Nat)(c0:w.cell? (B,0)=some (.int .i64 n)):
  Calls Tryz.prog 176 #[.slice a l cap,.pointer (some (B,0))] w fun r w'=>r= .returned (.bool ((l:Int) !=n))/\∃q,w'=w.drewN q:=by
 go_enter Tryz.func176,Tryz.ntmps176
 go_wp2_with fail
 go_ret;exact⟨rfl,0,rfl⟩
theorem zbE{P:Prop}(h:P:=by
 clear ho;go_wp2_with (go_at_call 71;refine aD.o.mono ?_;rintro e w'⟨rfl,q,rfl⟩)
 go_ret;exact⟨Af HP.o.symm,EX.o.drewN q⟩):P:=h
theorem zb0{P:Prop}(h:P:=by
 go_roundw
 case rel=>exact⟨k+1,by omega,by go_num,HA,aE⟩
 case measure=>simp[intOf];omega):P:=h
theorem GP(w:World)(n:Int)(rows:List (List Int))(v:Value)(hv:B9 w v rows):
  Calls Tryz.prog 124 #[n,v] w fun r w'=>r= .returned (.int .i64 (Ez n rows))/\Ex w w':=by
 have HV:=Aa hv;obtain⟨a,cap,rfl,s1,s2,s3⟩:=hv.open;unfold maxLen at s2;have e0:Ex w (w.alloc (.cells #[n] 3)):=(Ex.refl _).alloc _;have c0:(w.alloc (.cells #[n] 3)).cell? (w.heap.size,0)=some (.int .i64 n):=ag;have S3:=Aa (hv.ex e0).open;clear s3 hv;go_enter Tryz.func124,Tryz.ntmps124
 go_wp2_with fail
 generalize w.alloc (.cells #[n] 3)=w1 at *;refine(Io w1 n).mono ?_;rintro e w2⟨rfl,rfl⟩;by_cases hd:n<1∨64<n
 .have hz:MP n=4:=if_pos hd;have HP:=Aa (show Ez n rows=4 from if_pos hd);exact zcN
 .have hz:MP n=0:=if_neg hd;have HG:=Aa (show Ez n rows=J9 n rows from if_neg hd);rw[hz];have E0:=Aa e0;have C0:=Aa c0;clear hd hz e0 c0;go_wp2_with fail
  go_loopw [16] (fun k' wr=>∃(k:Nat),k<=rows.length/\k'= .int .i64 k/\Hia (∀(i:Nat) (r:List Int),i<k->rows[i]?=some r->BA r=0)/\Hia (Ex w1 wr)) (fun k' _=>rows.length-(intOf k').toNat)
  case atStart=>exact⟨0,ac,rfl,Aa (fun i x h=>ac),Aa (Ex.refl _)⟩
  case round=>
   obtain⟨k,hk,rfl,aA,hx⟩:=hrel;by_cases hkn:k<rows.length
   .obtain⟨b,o,rfl,hc⟩:∃b o,a=some ⟨b,o,none⟩/\∀(i:Nat) (r:List Int),rows[i]?=some r->∃u,w1.cell? ⟨b,o+i,none⟩=some u/\Aj w1 u r:=by
     exact zb9
    obtain⟨r,aC⟩:∃r,rows[k]?=some r:=⟨_,List.getElem?_eq_getElem hkn⟩;obtain⟨u,c1,hu⟩:=hc k r aC;have c1:=hx.o.cell c1;have i1:(0:Int)<=(k:Int):=ac;have i2:(k:Int)<(rows.length:Int):=ac;have aF:=Aa (FR wr r u (hu.ex hx.o));obtain⟨e,he⟩:=nA (BA r);rw[he]at aF;by_cases h0:e=0
    .have HA:=Aa (show ∀(i:Nat) (s:List Int),i<k+1->rows[i]?=some s->BA s=0 from fun i s hi hs=>by
      by_cases e2:i=k
      .subst e2;rw[aC]at hs;injection hs with hs;subst hs;rw[he,h0]
      .exact aA.o i s ac hs)
     subst h0;clear hc aC hu he aA;go_wp2_with (go_at_call 57;refine aF.o.mono ?_;rintro e w'⟨rfl,aB⟩;have aE:=Aa (hx.o.trans aB);clear aB)
     exact zb0
    .have hb:(e !=0)=true:=by simpa using h0
     have HP:=Aa (show Ez n rows=e from by rw[HG.o,QW aC (by rw[he];exact h0) (fun j s hj hs=>aA.o j s hj hs)];exact he);clear hc aC hu he aA h0;go_wp2_with (go_at_call 57;refine aF.o.mono ?_;rintro e w'⟨rfl,aB⟩;have aE:=Aa (hx.o.trans aB);clear aB)
     go_ret;exact⟨Af HP.o.symm,E0.o.trans aE.o⟩
   .obtain rfl:k=rows.length:=by omega
    have aK:=Aa (Hg (n:=n) fun j s hs=>aA.o j s (List.getElem?_eq_some_iff.1 hs).1 hs);have EX:=Aa (E0.o.trans hx.o);have c0:=hx.o.cell C0.o;obtain⟨us,aH,aL,aG⟩:=(HV.o.ex EX.o).vals;have aD:=Aa (JG wr (.pointer (some ⟨w.heap.size,0,none⟩)) (.slice a rows.length cap) rows.length us aH (fun i=>((rows.getD i []).length:Int) !=n) fun q i u hu=>by
     have hi:i<rows.length:=by have:=(List.getElem?_eq_some_iff.1 hu).1;omega
     have aI:rows[i]?=some (rows[i]):=List.getElem?_eq_getElem hi;have hd:rows.getD i []=rows[i]:=by rw[List.getD_eq_getElem?_getD,aI];rfl
     rw[hd];obtain⟨ua,uc,rfl,_⟩:=(aG i _ u aI hu).open;exact Vd _ w.heap.size n ua _ uc (((Ex.refl wr).drewN q).cell c0))
    have aJ:=Aa (show((List.range rows.length).any fun i=>((rows.getD i []).length:Int) !=n)=decide (∃r∈rows,(r.length:Int)≠n) from by
     rw[Bool.eq_iff_iff];simp only[List.any_eq_true,List.mem_range,decide_eq_true_eq,bne_iff_ne];constructor
     .exact zaB
     .rintro⟨x,hx,h⟩;obtain⟨i,hi,rfl⟩:=List.getElem_of_mem hx;exact⟨i,hi,by rw[List.getD_eq_getElem?_getD,List.getElem?_eq_getElem hi];exact h⟩)
    rw[aJ.o]at aD;clear aA aJ aH aL aG c0 hx;by_cases ho:∃r∈rows,(r.length:Int)≠n
    .have HP:=Aa (show Ez n rows=10 from by rw[HG.o,aK.o,if_pos ho]);rw[decide_eq_true ho]at aD;exact zbE
    .have HP:=Aa (show Ez n rows=0 from by rw[HG.o,aK.o,if_neg ho]);rw[decide_eq_false ho]at aD;exact zbE
def Re(p q:List Int):List Int:=p.map fun x=>q.getD x.toNat 0
def VI(n:Nat):List Int:=li n DA
theorem KH{n:Nat}{f g:Nat->Nat}(hf:∀i,i<n->f i<n):Re (li n f) (li n g)=li n (Ak f g):=by
 apply List.ext_getElem?;intro i;unfold Re;by_cases hi:i<n
 .rw[List.getElem?_map,Dm hi,Dm hi];show some ((li n g).getD (f i:Int).toNat 0)=_
  rw[Int.toNat_natCast,List.getD_eq_getElem?_getD,Dm (hf i hi)];rfl
 .rw[List.getElem?_eq_none (by rw[List.length_map,BB];omega),List.getElem?_eq_none el]
def IW(rows:List (List Int)):List Int × Int:=
 if rows= [] then([],11) else if J9 (rows.getD 0 []).length rows≠0 then([],J9 (rows.getD 0 []).length rows) else(rows.foldl Re (VI (rows.getD 0 []).length),0)
def CmpR(rows:List (List Int))(r:Ending)(w':World):Prop:=∃v,r= .returned (.tuple #[v,.int .i64 (IW rows).2])/\Aj w' v (IW rows).1
theorem ret_ve{v:Value}{e e':Int}(h:e=e'):Ending.returned (.tuple #[v,e])= .returned (.tuple #[v,e']):=by rw[h]
theorem Ku{rows:List (List Int)}{l:List Int}{e:Int}{v:Value}{w':World}(h:IW rows=(l,e))(hv:Aj w' v l):CmpR rows (.returned (.tuple #[v,e])) w':=⟨v,by rw[h],by rw[h];exact hv⟩
theorem XV{rows:List (List Int)}{n k:Nat}{f h:Nat->Nat}(hk:rows[k]?=some (li n h))(hf:AY n f)(e:(rows.take k).foldl Re (VI n)=li n f):(rows.take (k+1)).foldl Re (VI n)=li n (Ak f h):=by
 rw[List.take_add_one,hk,List.foldl_append,e];exact KH hf.lt
theorem MI(w:World)(rows:List (List Int))(v:Value)(hv:B9 w v rows):
  Calls Tryz.prog 47 #[v] w fun r w'=>CmpR rows r w'/\Ex w w':=by
 obtain⟨a,cap,rfl,s1,s2,s3⟩:=hv.open;unfold maxLen at s2;have S3:=Aa s3;clear s3 hv;by_cases hnil:rows= []
 .have HP:=Aa (show IW rows=([],11) from if_pos hnil);have hb:((rows.length:Int)==0)=true:=by simp[hnil]
  have aS:(rows.length==0)=true:=by simp[hnil]
  clear hnil;go_enter Tryz.func47,Tryz.ntmps47
  go_wp2_with fail
  go_ret2;exact⟨Ku HP.o (AR _),Ex.refl _⟩
 .have aL:=Aa hnil;have hlen:1<=rows.length:=by
   rcases rows with _|⟨r,rs⟩
   .exact absurd rfl hnil
   .simp
  have hb:((rows.length:Int)==0)=false:=aq;have aS:(rows.length==0)=false:=aq;obtain⟨b,o,rfl,hc⟩:=S3.o ac;have HC:=Aa hc;clear hnil hc S3;go_enter Tryz.func47,Tryz.ntmps47
  go_wp2_with fail
  go_loopw [15] (fun k' wr=>∃(k:Nat),k<=rows.length/\k'= .int .i64 k/\Hia (∀(i:Nat) (r:List Int),i<k->rows[i]?=some r->BA r=0)/\Hia (Ex w wr)) (fun k' _=>rows.length-(intOf k').toNat)
  case atStart=>exact⟨0,ac,rfl,Aa (fun i x h=>ac),Aa (Ex.refl _)⟩
  case round=>
   obtain⟨k,hk,rfl,aA,hx⟩:=hrel;by_cases hkn:k<rows.length
   .obtain⟨r,aB⟩:∃r,rows[k]?=some r:=⟨_,List.getElem?_eq_getElem hkn⟩;obtain⟨u,c1,hu⟩:=HC.o k r aB;have c1:=hx.o.cell c1;have i1:(0:Int)<=(k:Int):=by omega
    have i2:(k:Int)<(rows.length:Int):=ac;have aM:=Aa (FR wr r u (hu.ex hx.o));obtain⟨e,he⟩:=nA (BA r);rw[he]at aM;by_cases h0:e=0
    .have HA:=Aa (show ∀(i:Nat) (s:List Int),i<k+1->rows[i]?=some s->BA s=0 from fun i s hi hs=>by
      by_cases e2:i=k
      .subst e2;rw[aB]at hs;injection hs with hs;subst hs;rw[he,h0]
      .exact aA.o i s ac hs)
     subst h0;clear aB hu he aA;go_wp2_with (go_at_call 57;refine aM.o.mono ?_;rintro e w'⟨rfl,aD⟩;have aE:=Aa (hx.o.trans aD);clear aD)
     exact zb0
    .have hb:(e !=0)=true:=by simpa using h0
     have HP:=Aa (show IW rows=([],e) from by
      have:=QW (n:=((rows.getD 0 []).length:Int)) aB (by rw[he];exact h0) (fun j s hj hs=>aA.o j s hj hs);rw[he]at this;unfold IW;rw[if_neg aL.o,this,if_pos h0])
     clear aB hu he aA h0;go_wp2_with (go_at_call 57;refine aM.o.mono ?_;rintro e w'⟨rfl,aD⟩;have aE:=Aa (hx.o.trans aD);clear aD)
     go_ret2;exact⟨Ku HP.o (AR _),aE.o⟩
   .obtain rfl:k=rows.length:=by omega
    have aK:=Aa (show ∀(i:Nat) (r:List Int),rows[i]?=some r->BA r=0 from fun i r hr=>aA.o i r (List.getElem?_eq_some_iff.1 hr).1 hr);have aN:=Aa (Hg (n:=((rows.getD 0 []).length:Int)) aK.o);obtain⟨r0,aH⟩:∃r,rows[0]?=some r:=⟨_,List.getElem?_eq_getElem ac⟩;obtain⟨n,f0,hn1,hn2,aG,_,_⟩:=Fd (aK.o 0 r0 aH);have aJ:rows.getD 0 []=r0:=by rw[List.getD_eq_getElem?_getD,aH];rfl
    rw[aJ,aG]at aN;have aQ:=Aa (show(rows.getD 0 []).length=n from by rw[aJ,aG]);obtain⟨u,c1,hu⟩:=HC.o 0 r0 aH;rw[Nat.add_zero]at c1;have c1:=hx.o.cell c1;obtain⟨ua,uc,rfl,_,_,_⟩:=hu.open;rw[aG]at c1;have aU:=Aa (F5 wr n ac);clear aA aH aG aJ hu;go_wp2_with (go_at_call 102;refine aU.o.mono ?_;rintro e w2⟨g,rfl,aC,aD⟩;have aI:=Aa aC.li;have aE:=Aa (hx.o.trans aD);clear aC aD)
    go_loopw [7,32] (fun v' k' wr=>∃(k:Nat) (f:Nat->Nat) (g:Nat),k<=rows.length/\k'= .int .i64 k/\v'= .slice (some ⟨g,0,none⟩) n n/\Hia (∀(i:Nat) (r:List Int),i<k->rows[i]?=some r->r.length=n)/\Hia (AY n f)/\Hia ((rows.take k).foldl Re (VI n)=li n f)/\Hia (Aj wr (.slice (some ⟨g,0,none⟩) n n) (li n f))/\Hia (Ex w wr)) (fun _ k' _=>rows.length-(intOf k').toNat)
    case atStart=>exact⟨0,DA,g,ac,rfl,rfl,Aa (fun i x h=>ac),Aa (DW n),Aa (by simp[VI]),aI,aE⟩
    case round=>
     clear aI aE c1;obtain⟨k,f,g,hk,rfl,rfl,aA,hf,aF,hv,hx⟩:=hrel;by_cases hkn:k<rows.length
     .obtain⟨r,aB⟩:∃r,rows[k]?=some r:=⟨_,List.getElem?_eq_getElem hkn⟩;obtain⟨u,c1,hu⟩:=HC.o k r aB;have c1:=hx.o.cell c1;have hu:=hu.ex hx.o;obtain⟨ua,uc,rfl,_,_,_⟩:=hu.open;have i1:(0:Int)<=(k:Int):=by omega
      have i2:(k:Int)<(rows.length:Int):=ac;by_cases h0:r.length=n
      .have HA:=Aa (show ∀(i:Nat) (s:List Int),i<k+1->rows[i]?=some s->s.length=n from fun i s hi hs=>by
        by_cases e2:i=k
        .subst e2;rw[aB]at hs;injection hs with hs;subst hs;exact h0
        .exact aA.o i s ac hs)
       obtain⟨n',h,_,_,aR,hh,rfl⟩:=Fd (aK.o k r aB);obtain rfl:n=n':=ac;have aP:=Aa (EL wr n f h _ _ hv.o hu ac hf.o.lt);have aW:=Aa (XV aB hf.o aF.o);have aV:=Aa (hf.o.comp hh);rw[BB]at c1 aP;have hbn:((n:Int) !=(n:Int))=false:=ag;clear aB hu aA h0 aR aF hh hv;go_wp2_with (go_at_call 108;refine aP.o.mono ?_;rintro e w3⟨g3,rfl,aC,aO⟩;have aI:=Aa aC.li;have aT:=Aa (hx.o.trans aO);clear aC aO)
       go_roundw
       case rel=>exact⟨k+1,_,g3,ac,by go_num,rfl,HA,aV,aW,aI,aT⟩
       case measure=>simp[intOf];omega
      .have hb:((r.length:Int) !=(n:Int))=true:=by simp;omega
       have hb3:(r.length !=n)=true:=by simpa using h0
       have HP:=Aa (show IW rows=([],10) from by
        have hA:J9 n rows=10:=by rw[aN.o,if_pos ⟨r,List.mem_of_getElem? aB,ac⟩]
        unfold IW;rw[if_neg aL.o,aQ.o,hA,if_pos ae])
       clear aB hu aA h0 aF hv hf;go_wp2_with fail
       go_ret2;exact⟨Ku HP.o (AR _),hx.o⟩
     .obtain rfl:k=rows.length:=by omega
      have HP:=Aa (show IW rows=(li n f,0) from by
       have hA:J9 n rows=0:=by
        rw[aN.o,if_neg];rintro⟨r,hr,h⟩;obtain⟨i,hi,rfl⟩:=List.getElem_of_mem hr;have:=aA.o i _ hi (List.getElem?_eq_getElem hi);omega
       unfold IW;rw[if_neg aL.o,aQ.o,hA,if_neg ae,<-aF.o,List.take_length])
      clear aA hf aF;go_wp2_with fail
      go_ret2;exact⟨Ku HP.o hv.o,hx.o⟩
end Go.Proofs.YtehieobniamagaaGreat
