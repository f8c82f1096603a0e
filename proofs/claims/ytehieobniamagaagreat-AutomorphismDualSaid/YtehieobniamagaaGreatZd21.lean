/- Walk of automorphism.from (printed by gen_frm.py). -/
import Derived.Test.YtehieobniamagaaGreatZd20
namespace Go.Proofs.YtehieobniamagaaGreat
open Go.RowKit
set_option linter.all false
set_option maxRecDepth 100000
set_option maxHeartbeats 8000000
def FS(Q:Nat)(P:List Int)(i:Nat):Int:=P.getD (i*Q) 0/(Q:Int)
def Gi(Q:Nat)(P:List Int)(i:Nat):Int:=P.getD (i*Q) 0%(Q:Int)+1
def Uf(p m:Nat)(ml:List Int)(N:Nat)(P:List Int):Bool:=decide (OA p m ml (il N (FS (p^m-1) P)) (il N (Gi (p^m-1) P))=P)
section
variable {b p m x0:Nat} {ml:List Int}
theorem zbQ{P:Prop}(h:P:=by
 have k9:IntKind.i64.wrap ((Q:Int))=(Q:Int):=IntWalk.i64_in _ (by omega);exact zc8):P:=h
theorem dw{P:Prop}(h:P:=by rw[<-hB];simp):P:=h
theorem PM(w:World)(hg:A9 w b p m ml x0)(N:Nat)(hN1:1<=N)(hN:N<=64)(P:List Int)(pv:Value)(hp:Am w pv P)(hd:N*(p^m-1)<=64)(aA:P.length=N*(p^m-1))(aT:∀x∈P,0<=x/\x<(P.length:Int)):
  Calls Tryz.prog 58 #[.pointer (some ⟨b,0,none⟩),.int .i64 N,pv] w fun r w'=>∃u v,r= .returned (.tuple #[.agg #[u,v,.int .i64 0],.bool (Uf p m ml N P)])/\Am w' u (il N (FS (p^m-1) P))/\Am w' v (il N (Gi (p^m-1) P))/\((∀X,u.ownBlock=some X->w.heap.size<=X)/\∀X,v.ownBlock=some X->w.heap.size<=X)/\Ex w w':=by
 have HG:=Aa hg;have bX:2<=p^m:=Nat.le_trans hg.sh.p2 (Nat.le_self_pow (by have:=hg.sh.m1;omega) p);have bW:=hg.sh.q;have bP:=Aa (fun w1 (h:Ex w w1)=>Cr w1 (hg.ex h));have bB:=Aa (fun (w1:World) (h:Ex w w1) (pl sl:List Int) (u v:Value) (hp:Am w1 u pl) (hs:Am w1 v sl) (h1:pl.length=N) (h2:sl.length=N) (h3:BU pl N=true)=>Q7 w1 (hg.ex h) N hN pl sl u v hp hs h1 h2 h3 hd 0);obtain⟨BE,aX⟩:∃b,Uf p m ml N P=b:=⟨_,rfl⟩;have bF:=Aa (show decide (il (N*(p^m-1)) (Qy p m ml (il N (FS (p^m-1) P)) (il N (Gi (p^m-1) P)))=P)=BE from by
  rw[<-aX];unfold Uf OA;rw[An])
 rw[aX];obtain⟨pa,pc,rfl,z1,z2,p3⟩:=hp.open;unfold maxLen at z2;have P3:=Aa p3;have HP:=Aa hp;obtain⟨q,hq⟩:=nA (p^m);obtain⟨Q,hQ⟩:=nA (q-1);rw[hq]at bP bB bF bX bW hd aA ⊢;rw[hQ]at bB bF hd aA ⊢;have kQ:(q:Int)-1=(Q:Int):=ac;have bZ:1<=Q:=ac;obtain⟨PN,aV⟩:∃n,P.length=n:=⟨_,rfl⟩;rw[aV]at aA aT p3 P3 z1 HP ⊢;have bO:=Aa (show ∀i,i<N->∃X:Nat,P.getD (i*Q) 0=(X:Int)/\i*Q<PN/\X<PN from fun i hi=>by
  have h1:i*Q<PN:=by rw[aA];exact Nat.mul_lt_mul_of_pos_right hi bZ
  obtain⟨h2,h3⟩:=aT (P.getD (i*Q) 0) (List.mem_of_getElem? (Bc ac));exact⟨(P.getD (i*Q) 0).toNat,ac,h1,ac⟩)
 obtain⟨cM,HPN,HLN,HD,cE⟩:=Of (fun i (hi:i<PN)=>Bc (l:=P) (i:=i) ac) aV aA (show PN<=64 from ac) (show ∀X:Nat,X<PN->X/Q<N from fun X hX=>Nat.div_lt_of_lt_mul (by rw[Nat.mul_comm,<-aA];exact hX));clear hg hp aT aA hd aV p3 aX hq hQ;have kq0:¬(Q:Int)=0:=by omega
 have kq1:¬Q=0:=ac;have kqb:Q<=255:=ac;go_enter Tryz.func58,Tryz.ntmps58
 go_upto_region 1 with fail
 obtain⟨B0,hB⟩:∃B,w.heap.size=B:=⟨_,rfl⟩;have r0:(w.alloc (.cells #[.slice none 0 0,.slice none 0 0,.int .i64 0] 26)).cell? ⟨B0,0,none⟩=some (.slice none 0 0):=dw;have r1:(w.alloc (.cells #[.slice none 0 0,.slice none 0 0,.int .i64 0] 26)).cell? ⟨B0,1,none⟩=some (.slice none 0 0):=dw;have r2:(w.alloc (.cells #[.slice none 0 0,.slice none 0 0,.int .i64 0] 26)).cell? ⟨B0,2,none⟩=some (.int .i64 0):=dw;have s0:(w.alloc (.cells #[.slice none 0 0,.slice none 0 0,.int .i64 0] 26)).frozen? ⟨B0,0,none⟩=false:=dw;have s1:(w.alloc (.cells #[.slice none 0 0,.slice none 0 0,.int .i64 0] 26)).frozen? ⟨B0,1,none⟩=false:=dw;have s2:(w.alloc (.cells #[.slice none 0 0,.slice none 0 0,.int .i64 0] 26)).frozen? ⟨B0,2,none⟩=false:=dw;have aN:=Aa (show Ex w (w.alloc (.cells #[.slice none 0 0,.slice none 0 0,.int .i64 0] 26)) from(Ex.refl w).alloc _);have bM:=Aa (show(w.alloc (.cells #[.slice none 0 0,.slice none 0 0,.int .i64 0] 26)).heap.size=B0+1 from by simp[hB])
 try simp only[hB]
 have cO:=Aa hB;clear hB;generalize w.alloc (.cells #[.slice none 0 0,.slice none 0 0,.int .i64 0] 26)=w3 at *;have bN:=Aa (show ∀w',Ex w3 w'->w'.cell? ⟨B0,0,none⟩=some (.slice none 0 0)/\w'.cell? ⟨B0,1,none⟩=some (.slice none 0 0)/\w'.cell? ⟨B0,2,none⟩=some (.int .i64 0)/\w'.frozen? ⟨B0,0,none⟩=false/\w'.frozen? ⟨B0,1,none⟩=false/\w'.frozen? ⟨B0,2,none⟩=false from
  fun w' h=>⟨h.cell r0,h.cell r1,h.cell r2,h.frz r0 s0,h.frz r1 s1,h.frz r2 s2⟩)
 go_upto_region 2 with (go_at_call 54;refine(bP.o w3 aN.o).mono ?_;rintro e w2⟨rfl,rfl⟩)
 obtain⟨B1,aY⟩:∃B,w3.heap.size=B:=⟨_,rfl⟩;have bE:=Aa (GT.new w3 0);rw[aY]at bE;have bT:=Aa aY;clear r0 r1 r2 s0 s1 s2 aY;go_upto_region 3 with fail
 try simp only[bT.o]
 generalize w3.alloc (.cells #[.slice none 0 0,.slice none 0 0,.int .i64 0] 26)=w4 at *;go_wp2_with fail
 go_loopw [15] (fun i' wr=>∃(i:Nat) (pv sv:Value),i<=N/\i'= .int .i64 i/\Hia (GT w3 wr B1 0 pv sv (il i (FS Q P)) (il i (Gi Q P)))) (fun i' _=>N-(intOf i').toNat)
 case atStart=>exact⟨0,_,_,ac,rfl,bE⟩
 case round=>
  clear bE;obtain⟨i,pv,sv,hi,rfl,HC⟩:=hrel;by_cases aB:i<N
  .obtain⟨X,hX,bL,bY⟩:=bO.o i aB;obtain⟨A,hA⟩:=nA (X/Q);obtain⟨R,hR⟩:=nA (X%Q);have cL:=Aa (show il (i+1) (FS Q P)=il i (FS Q P) ++ [(A:Int)] from by rw[SJ];unfold FS;rw[hX,<-hA];norm_cast);have cK:=Aa (show il (i+1) (Gi Q P)=il i (Gi Q P) ++ [(R:Int)+1] from by rw[SJ];unfold Gi;rw[hX,<-hR];norm_cast);have kd:(X:Int).tdiv (Q:Int)=(A:Int):=by rw[Int.tdiv_eq_ediv_of_nonneg ac,<-hA];norm_cast
   have kr:(X:Int).tmod (Q:Int)=(R:Int):=by rw[Int.tmod_eq_emod_of_nonneg ac,<-hR];norm_cast
   have hAb:A<=64:=by rw[<-hA];exact Nat.le_trans (Nat.div_le_self _ _) (by have:=HD.o;omega)
   have hRb:R<=64:=by rw[<-hR];exact Nat.le_trans (Nat.mod_le _ _) (by have:=HD.o;omega)
   obtain⟨pb,po,rfl,bJ⟩:=P3.o ac;have cx:=(aN.o.trans HC.o.ex).cell (bJ _ _ (cM.o _ bL));rw[hX]at cx;obtain⟨IQ,aW⟩:∃z,i*Q=z:=⟨_,rfl⟩;rw[aW]at cx bL;have kI:(i:Int)*(Q:Int)=(IQ:Int):=by rw[<-aW];norm_cast
   have i1:(0:Int)<=(IQ:Int):=ac;have i2:(IQ:Int)<(PN:Int):=ac;have aQ:=Aa (show(il i (FS Q P)).length<=64/\(il i (Gi Q P)).length<=64 from by rw[An,An];omega);have aE:=Aa hN;obtain⟨va,vc,rfl⟩:=Ad HC.o.o0;obtain⟨ua,uc,rfl⟩:=Ad HC.o.o1;have HCW:=Aa HC.o.ex;have D0:=Aa HC.o.b0;have bC:=Aa aB;clear hX hA hR bJ aW aB bY;go_wp2_with fail
   go_upto_region 7 with fail
   clear cx kI i1 i2
   go_cut [25] from 25 to 33 (fun _ wx=>∃aH aG,Hia (GT w3 wx B1 0 (.slice aH (il (i+1) (FS Q P)).length aG) (.slice ua (il i (Gi Q P)).length uc) (il (i+1) (FS Q P)) (il i (Gi Q P))))
   case first=>
    refine Fw (fun k=>([.pointer (some ⟨B1,0,none⟩),.slice va (il i (FS Q P)).length vc,.int .i64 (X:Int),.int .i64 (q:Int),.int .i64 (Q:Int),.int .i64 (A:Int),undef,undef,.pointer (some ⟨B1,0,none⟩)]:List Value).getD k undef) 6 7 8 9 (.int .i64 (A:Int)) 3 (fun v w=>∃w1,GT w3 w1 B1 0 (.slice va (il i (FS Q P)).length vc) (.slice ua (il i (Gi Q P)).length uc) (il i (FS Q P)) (il i (Gi Q P))/\RZ w1 w w3.heap.size 3 1 (.slice va (il i (FS Q P)).length vc) v (il i (FS Q P)).length (Ao (il i (FS Q P))) [.int .i64 (A:Int)]) (fun v w=>GT w3 w B1 0 v (.slice ua (il i (Gi Q P)).length uc) ((il i (FS Q P)) ++ [(A:Int)]) (il i (Gi Q P))) ah ah ah ?_ ?_ ?_ ?_ (fun B v k=>([.pointer (some ⟨B1,0,none⟩),.slice va (il i (FS Q P)).length vc,.int .i64 (X:Int),.int .i64 (q:Int),.int .i64 (Q:Int),.int .i64 (A:Int),.slice (some ⟨B,0,none⟩) 1 1,v,.pointer (some ⟨B1,0,none⟩)]:List Value).getD k undef) (fun _ _=>rfl) ?_
    .simp only[AL];refine⟨?_,?_,?_,?_,?_,?_,?_,?_,?_,?_,trivial⟩
     all_goals first|exact Ik.sk ae|refine Ik.go ae fun a w T hx K hK=>?_|refine Ik.gf ae fun a w T K hK=>?_
     .have e9:=T 9 _ rfl;exact zc8
     .have e25:=T 25 _ rfl;have q1:=hx.cell D0.o;exact zc8
     .have cA:=T 11 _ rfl;exact zc8
     .exact zaW
     .have e28:=T 28 _ rfl;exact zbQ
     .have e27:=T 27 _ rfl;have e29:=T 29 _ rfl;have k9:IntKind.i64.wrap ((A:Int))=(A:Int):=IntWalk.i64_in _ ac;exact zc8
     .have e9:=T 9 _ rfl;clear T;go_simp;exact hK
    .intro o a w1 K ho hx aB hK;injection (show some _=some o from ho) with ho;subst ho;have e30:=aB 5 30 _ ah ae ae ae rfl rfl;clear aB;go_simp;exact hK
    .intro o ob a w1 B8 K ho aK hx aS aU aB hA;injection (show some _=some o from ho) with ho;subst ho;injection (show some _=some ob from aK) with aK;subst aK;have e1:=Cw (aB 1 26 _ ah ae ae ae rfl rfl);have e2:=Cw (aS 31 rfl);refine Dj _ _ 22 rfl w3.heap.size 3 (.int .i64 0) 1 8 Tryz.underlying22 AA rfl ae (.slice va (il i (FS Q P)).length vc) (il i (FS Q P)).length (Ao (il i (FS Q P))) e1 ((HC.o.later hx).o0) _ 1 [.int .i64 (A:Int)] e2 (Sa aU) aj (by have:=aQ.o.1;have:=aE.o;unfold maxLen;omega) (by have:=aQ.o.1;have:=aE.o;omega) ((HC.o.later hx).ex.size) ?_;intro v' w' aI hg ha;exact hA v' w' (⟨w1,HC.o.later hx,⟨aI,hg,ha,(HC.o.later hx).o0⟩⟩)
    .intro o oa of a w1 v K ho aL aJ hA h1 h2 hK;injection (show some _=some o from ho) with ho;subst ho;injection (show some _=some oa from aL) with aL;subst aL;injection (show some _=some of from aJ) with aJ;subst aJ;have e1:=h1 32 rfl;have e2:=h2 33 rfl;obtain⟨w2,aM,aD⟩:=hA;obtain⟨g1,g2⟩:=aM.at0g aD;have aC:=aM.app0g aD;obtain⟨aH,aG,rfl⟩:=Ad aD.own;clear aM aD h1 h2;have bD:=Aa aC;clear aC;go_simp;exact hK _ bD.o
    .intro B8 v w1 hF;rw[<-cL.o]at hF;obtain⟨aH,aG,bI⟩:=Ad hF.o0;rw[bI]at hF;have HF:=Aa hF;clear hF bI;simp only[Ck,Act.put,List.setIfInBounds_toArray,List.set_cons_zero,List.set_cons_succ];go_wp2_with fail
     go_meet
     exact⟨aH,aG,HF⟩
   case rest=>
    obtain⟨aH,aG,bK⟩:=hcut;have aP:=Aa bK.o;clear bK;have HCX:=Aa aP.o.ex;have D1:=Aa aP.o.b1;go_upto_region 8 with fail
    refine Fw (fun k=>([.pointer (some ⟨B1,1,none⟩),.slice ua (il i (Gi Q P)).length uc,.int .i64 (X:Int),.int .i64 (q:Int),.int .i64 (Q:Int),.int .i64 (R:Int),.int .i64 ((R:Int)+1),undef,undef,.pointer (some ⟨B1,1,none⟩)]:List Value).getD k undef) 7 8 9 10 (.int .i64 ((R:Int)+1)) 3 (fun v w=>∃w1,GT w3 w1 B1 0 (.slice aH (il (i+1) (FS Q P)).length aG) (.slice ua (il i (Gi Q P)).length uc) (il (i+1) (FS Q P)) (il i (Gi Q P))/\RZ w1 w w3.heap.size 3 1 (.slice ua (il i (Gi Q P)).length uc) v (il i (Gi Q P)).length (Ao (il i (Gi Q P))) [.int .i64 ((R:Int)+1)]) (fun v w=>GT w3 w B1 0 (.slice aH (il (i+1) (FS Q P)).length aG) v (il (i+1) (FS Q P)) ((il i (Gi Q P)) ++ [(R:Int)+1])) ah ah ah ?_ ?_ ?_ ?_ (fun B v k=>([.pointer (some ⟨B1,1,none⟩),.slice ua (il i (Gi Q P)).length uc,.int .i64 (X:Int),.int .i64 (q:Int),.int .i64 (Q:Int),.int .i64 (R:Int),.int .i64 ((R:Int)+1),.slice (some ⟨B,0,none⟩) 1 1,v,.pointer (some ⟨B1,1,none⟩)]:List Value).getD k undef) (fun _ _=>rfl) ?_
    .simp only[AL];refine⟨?_,?_,?_,?_,?_,?_,?_,?_,?_,?_,?_,trivial⟩
     all_goals first|exact Ik.sk ae|refine Ik.go ae fun a w T hx K hK=>?_|refine Ik.gf ae fun a w T K hK=>?_
     .have e9:=T 9 _ rfl;exact zc8
     .have e34:=T 34 _ rfl;have q1:=hx.cell D1.o;exact zc8
     .have cA:=T 11 _ rfl;exact zc8
     .exact zaW
     .have e37:=T 37 _ rfl;exact zbQ
     .have e36:=T 36 _ rfl;have e38:=T 38 _ rfl;have k9:IntKind.i64.wrap ((R:Int))=(R:Int):=IntWalk.i64_in _ ac;exact zc8
     .have e39:=T 39 _ rfl;have k9:IntKind.i64.wrap ((R:Int)+1)=(R:Int)+1:=IntWalk.i64_in _ ac;exact zc8
     .have e9:=T 9 _ rfl;clear T;go_simp;exact hK
    .intro o a w1 K ho hx aB hK;injection (show some _=some o from ho) with ho;subst ho;have e40:=aB 6 40 _ ah ae ae ae rfl rfl;clear aB;go_simp;exact hK
    .intro o ob a w1 B8 K ho aK hx aS aU aB hA;injection (show some _=some o from ho) with ho;subst ho;injection (show some _=some ob from aK) with aK;subst aK;have e1:=Cw (aB 1 35 _ ah ae ae ae rfl rfl);have e2:=Cw (aS 41 rfl);refine Dj _ _ 22 rfl w3.heap.size 3 (.int .i64 0) 1 8 Tryz.underlying22 AA rfl ae (.slice ua (il i (Gi Q P)).length uc) (il i (Gi Q P)).length (Ao (il i (Gi Q P))) e1 ((aP.o.later hx).o1) _ 1 [.int .i64 ((R:Int)+1)] e2 (Sa aU) aj (by have:=aQ.o.2;have:=aE.o;unfold maxLen;omega) (by have:=aQ.o.2;have:=aE.o;omega) ((aP.o.later hx).ex.size) ?_;intro v' w' aI hg ha;exact hA v' w' (⟨w1,aP.o.later hx,⟨aI,hg,ha,(aP.o.later hx).o1⟩⟩)
    .intro o oa of a w1 v K ho aL aJ hA h1 h2 hK;injection (show some _=some o from ho) with ho;subst ho;injection (show some _=some oa from aL) with aL;subst aL;injection (show some _=some of from aJ) with aJ;subst aJ;have e1:=h1 42 rfl;have e2:=h2 43 rfl;obtain⟨w2,aM,aD⟩:=hA;obtain⟨g1,g2⟩:=aM.at1g aD;have aC:=aM.app1g aD;obtain⟨va7,vc7,rfl⟩:=Ad aD.own;clear aM aD h1 h2;have bD:=Aa aC;clear aC;go_simp;exact hK _ bD.o
    .intro B8 v w1 hF;rw[<-cK.o]at hF;have HF:=Aa hF;clear hF;simp only[Ck,Act.put,List.setIfInBounds_toArray,List.set_cons_zero,List.set_cons_succ];go_wp2_with fail
     go_roundw
     case rel=>first|exact⟨i+1,_,_,by have:=bC.o;omega,by go_num,HF⟩|((repeat apply Exists.intro);exact⟨⟨i+1,_,_,by have:=bC.o;omega,by go_num,HF⟩,rfl⟩)
     case measure=>have:=bC.o;simp[intOf];omega
  .obtain rfl:i=N:=by omega
   obtain⟨va,vc,rfl⟩:=Ad HC.o.o0;obtain⟨ua,uc,rfl⟩:=Ad HC.o.o1;have HC:=Aa HC.o;have m0:=HC.o.b0;have m1:=HC.o.b1;have m2:=HC.o.b2;have bA:=Aa (show Am wr (.slice va (il i (FS Q P)).length vc) (il i (FS Q P)) from Sl.own HC.o.o0);have aZ:=Aa (show Am wr (.slice ua (il i (Gi Q P)).length uc) (il i (Gi Q P)) from Sl.own HC.o.o1);rw[An]at bA m0;rw[An]at aZ m1;have cI:=Aa (show BU (il i (FS Q P)) i=true from by
    unfold BU;rw[List.all_eq_true];intro x hx;unfold il at hx;obtain⟨j,hj,rfl⟩:=List.mem_map.1 hx;rw[List.mem_range]at hj;obtain⟨X,h1,h2,h3⟩:=bO.o j hj;have h4:=cE.o X h3;have h5:FS Q P j=((X/Q:Nat):Int):=by unfold FS;rw[h1];norm_cast
    rw[h5];generalize X/Q=Z at *;exact decide_eq_true ⟨ac,ac⟩)
   have cJ:=Aa (fun w' (h:Ex wr w')=>bB.o w' (aN.o.trans (HC.o.ex.trans h)) _ _ _ _ (bA.o.ex h) (aZ.o.ex h) (An _ _) (An _ _) cI.o);have cN:=Aa (fun w' (h:Ex wr w') (v:Value) (hv:Am w' v (il (i*Q) (Qy p m ml (il i (FS Q P)) (il i (Gi Q P)))))=>(by
    have:=IZ w' _ P v (.slice pa PN pc) hv (HP.o.ex (aN.o.trans (HC.o.ex.trans h)));rw[bF.o]at this;exact this:Calls Tryz.prog 101 #[v,.slice pa PN pc] w' fun r w''=>r= .returned (.bool BE)/\∃n,w''=w'.drewN n))
   obtain⟨HR,aF,M0,M1,M2,cF⟩:=To (bN.o wr HC.o.ex) (show B0≠B1 from by have:=bT.o;have:=bM.o;omega) m0 m1 m2 (aN.o.trans HC.o.ex);clear m0 m1 m2;go_wp2_with fail
   have G0:Ex wr wr.drew:=(Ex.refl wr).drew;obtain⟨aO,cH,bR,bQ⟩:=Eq (fun (w5:World) (h5:Ex wr w5)=>(⟨h5.cell M0.o,h5.cell M1.o,h5.cell M2.o⟩:w5.cell? ⟨B1,0,none⟩=some (.slice va i vc)/\w5.cell? ⟨B1,1,none⟩=some (.slice ua i uc)/\w5.cell? ⟨B1,2,none⟩=some (.int .i64 0))) (fun (w5:World) (h5:Ex wr w5)=>bN.o w5 (HC.o.ex.trans h5)) HC.o.o0 HC.o.o1;have bS:=Aa (show ∀v (L:List Int),wr.ownsRow w3.heap.size 3 1 v L.length (Ao L)->∀X,v.ownBlock=some X->X≠B0 from fun v L h X e=>by
    have:=(h.lt X e).1;have:=bM.o;omega)
   have bG:=Aa (fun (w5:World) (h5:Ex wr w5)=>(⟨(World.cell?_setCell_other _ _ _ _ (by intro e;have:=aF.o;simp at e <;> omega)).trans ((World.cell?_setCell_other _ _ _ _ (by intro e;have:=aF.o;simp at e <;> omega)).trans ((World.cell?_setCell_other _ _ _ _ (by intro e;have:=aF.o;simp at e <;> omega)).trans (h5.cell M0.o))),(World.cell?_setCell_other _ _ _ _ (by intro e;have:=aF.o;simp at e <;> omega)).trans ((World.cell?_setCell_other _ _ _ _ (by intro e;have:=aF.o;simp at e <;> omega)).trans ((World.cell?_setCell_other _ _ _ _ (by intro e;have:=aF.o;simp at e <;> omega)).trans (h5.cell M1.o))),(World.cell?_setCell_other _ _ _ _ (by intro e;have:=aF.o;simp at e <;> omega)).trans ((World.cell?_setCell_other _ _ _ _ (by intro e;have:=aF.o;simp at e <;> omega)).trans ((World.cell?_setCell_other _ _ _ _ (by intro e;have:=aF.o;simp at e <;> omega)).trans (h5.cell M2.o)))⟩:(((w5.setCell ⟨B0,0,none⟩ (.slice va i vc)).setCell ⟨B0,1,none⟩ (.slice ua i uc)).setCell ⟨B0,2,none⟩ (.int .i64 0)).cell? ⟨B1,0,none⟩=some (.slice va i vc)/\(((w5.setCell ⟨B0,0,none⟩ (.slice va i vc)).setCell ⟨B0,1,none⟩ (.slice ua i uc)).setCell ⟨B0,2,none⟩ (.int .i64 0)).cell? ⟨B1,1,none⟩=some (.slice ua i uc)/\(((w5.setCell ⟨B0,0,none⟩ (.slice va i vc)).setCell ⟨B0,1,none⟩ (.slice ua i uc)).setCell ⟨B0,2,none⟩ (.int .i64 0)).cell? ⟨B1,2,none⟩=some (.int .i64 0)));clear HC HR
   go_region_held3 (fun w'=>w'.cell? ⟨B1,0,none⟩=some (.slice va i vc)/\w'.cell? ⟨B1,1,none⟩=some (.slice ua i uc)/\w'.cell? ⟨B1,2,none⟩=some (.int .i64 0))
    (first|with_reducible exact bG.o _ X6|with_reducible exact aO.o _ X6|with_reducible exact aO.o _ X5|with_reducible exact aO.o _ G0)
    (first|(go_at_call 55;(with_reducible refine(cJ.o _ G0).mono ?_);rintro e w5⟨v5,rfl,aR,bH⟩;have X5:=G0.trans bH;obtain⟨bV,bU,rfl⟩:=Ad aR;have cG:=Aa (show Am w5 (.slice bV (i*Q) bU) (il (i*Q) (Qy p m ml (il i (FS Q P)) (il i (Gi Q P)))) from by unfold Am;rw[An,Cf];exact Sl.own aR);clear aR bH)|(go_at_call 101;(with_reducible refine(cN.o _ X5 _ cG.o).mono ?_);rintro e w6⟨rfl,n6,rfl⟩;have X6:=X5.drewN n6;obtain⟨cD,cC,cB,f60,f61,f62⟩:=cH.o _ X6))
   all_goals
    obtain⟨z0,z1,z2⟩:((((w5.drewN n6).setCell ⟨B0,0,none⟩ (.slice va i vc)).setCell ⟨B0,1,none⟩ (.slice ua i uc)).setCell ⟨B0,2,none⟩ (.int .i64 0)).cell? ⟨B0,0,none⟩=some (.slice va i vc)/\((((w5.drewN n6).setCell ⟨B0,0,none⟩ (.slice va i vc)).setCell ⟨B0,1,none⟩ (.slice ua i uc)).setCell ⟨B0,2,none⟩ (.int .i64 0)).cell? ⟨B0,1,none⟩=some (.slice ua i uc)/\((((w5.drewN n6).setCell ⟨B0,0,none⟩ (.slice va i vc)).setCell ⟨B0,1,none⟩ (.slice ua i uc)).setCell ⟨B0,2,none⟩ (.int .i64 0)).cell? ⟨B0,2,none⟩=some (.int .i64 0):=⟨by rw[Af ae,Af ae];exact World.cell?_setCell_same _ _ _ cD,by rw[Af ae];exact World.cell?_setCell_same _ _ _ ((Af ae).trans cC),World.cell?_setCell_same _ _ _ ((Af ae).trans ((Af ae).trans cB))⟩;go_wp2_with fail
    exact bodyPost_ret (v:= .tuple #[.agg #[.slice va i vc,.slice ua i uc,.int .i64 0],.bool BE]) (by simp[results,Tryz.results58,go_sem,z0,z1,z2]) rfl ⟨_,_,rfl,Fd (bA.o.ex X6) (by have:=bS.o _ _ bR.o;rw[An]at this;exact this) _ _ _,Fd (aZ.o.ex X6) (by have:=bS.o _ _ bQ.o;rw[An]at this;exact this) _ _ _,⟨fun X e=>by have:=(bR.o.lt X (by rw[An];exact e)).1;have:=aN.o.size;omega,fun X e=>by have:=(bQ.o.lt X (by rw[An];exact e)).1;have:=aN.o.size;omega⟩,Ce (cF.o.trans X6) (Nat.le_of_eq cO.o) _ _ _⟩
end
def RL:Prop:=∀(w:World) (base:Nat) (v:Value) (l:List Int),w.ownsRow base 3 1 v l.length (Ao l)->1<=l.length->l.length<=1000->
 Calls Tryz.prog 125 #[v] w fun r w'=>r= .returned (.tuple #[])/\w'.ownsRow base 3 1 v l.length (Ao (l.mergeSort fun x y=>decide (x<=y)))/\w.grownBy w' v.ownBlock
theorem Kj{w:World}{base aA:Nat}{e:TypeId}{size:Nat}{v:Value}{n:Nat}{xs:List Value}(h:w.ownsRow base e size v n xs)(hb:aA<=base):w.ownsRow aA e size v n xs:=by
 exact zbZ
section
variable {w0 wr:World} {base g n:Nat} {sf:Nat->Bool} {cyv:Value} {cyc:List Int} {cv:Value} {M:List (List Int)} {vals:List Value}
theorem Cq.lit(h:Cq w0 wr base g n sf cyv cyc cv M vals)(x:Int):Cq w0 (wr.alloc (.cells #[.int .i64 x] 3)) base g n sf (.slice (some ⟨wr.heap.size,0,none⟩) 1 1) [x] cv M vals:=by
 have hx:Ex wr (wr.alloc (.cells #[.int .i64 x] 3)):=(Ex.refl _).alloc _;have h2:=h.later hx;refine⟨h2.sn,?_,h2.m,?_,fun u hu=>?_,h2.gb,h2.ex,h2.wb⟩
 .have:=Fi wr (.int .i64 x) 3;exact Kj this h.wb
 .right;intro e;have:=(h.m.cvo.lt wr.heap.size e.symm).2;omega
 .unfold AQ
  cases e:u.ownBlock with
  | none=>exact .inl rfl
  | some b=>
   right;intro e2;injection e2 with e2;have e2:b=wr.heap.size:=e2;have hn:=h.m.len;obtain⟨i,hi,ei⟩:=List.getElem_of_mem hu;have:=((h.m.row i (M[i]'ac) u (List.getElem?_eq_getElem _) (by rw[List.getElem?_eq_getElem hi,ei])).lt b e).2;omega
theorem Cq.turn(h:Cq w0 wr base g n sf cyv cyc cv M vals){w':World}{l:List Int}(hl:l.length=cyc.length)(ho:w'.ownsRow base 3 1 cyv cyc.length (Ao l))(hg:wr.grownBy w' cyv.ownBlock):Cq w0 w' base g n sf cyv l cv M vals:=by
 have aA:cyv.ownBlock≠some g:=fun e=>by have:=(h.cy.lt _ e).1;have:=h.gb;omega
 refine⟨h.sn.kept hg (.inr fun e=>aA e.symm),by rw[hl];exact ho,⟨h.m.cvo.kept hg h.ap1.symm,fun i r u h1 h2=>(h.m.row i r u h1 h2).kept hg (h.ap2 u (List.mem_of_getElem? h2)),h.m.apart⟩,h.ap1,h.ap2,h.gb,Ex.grown h.ex h.cy (by have:=h.gb;have:=h.sn.lt.1;omega) hg,Nat.le_trans h.wb hg.size⟩
end
def Dy(q:List Nat):List Int:=q.map fun (x:Nat)=>(x:Int)
theorem CE(q:List Nat):(Dy q).length=q.length:=by unfold Dy;simp
theorem YE{q:List Nat}{k x:Nat}(h:q[k]?=some x):(Dy q)[k]?=some (x:Int):=by unfold Dy;rw[List.getElem?_map,h];rfl
theorem SK(q:List Nat)(x:Nat):Dy (q ++ [x])=Dy q ++ [(x:Int)]:=by unfold Dy;simp
theorem zbG{P:Prop}(h:P:=by
 unfold Dy;rw[List.mem_map];exact⟨fun h=>⟨x,h,rfl⟩,fun ⟨y,hy,e⟩=>by
   have:y=x:=by omega
   subst this;exact hy⟩):P:=h
theorem UO{n:Nat}{S:List (Nat->Nat)}(hS:∀s∈S,Bw n s){i:Nat}(hi:i<n){q:List Nat}(aB:q.Nodup)(hq:∀y,y∈q↔D4 S i y):(Dy q).mergeSort (fun x y=>decide (x<=y))=Q6 n S i:=by
 have hp:((Dy q).mergeSort fun x y=>decide (x<=y)).Perm (Dy q):=List.mergeSort_perm _ _;have hs:((Dy q).mergeSort fun x y=>decide (x<=y)).Pairwise fun x y=>decide (x<=y)=true:=List.pairwise_mergeSort (fun a b c h1 h2=>by simp at *;omega) (fun a b=>by simp;omega) _;have aA:((Dy q).mergeSort fun x y=>decide (x<=y)).Nodup:=hp.nodup_iff.2 (by
  unfold Dy;rw[List.nodup_iff_pairwise_ne]at aB ⊢;exact List.pairwise_map.2 (aB.imp fun {a b} h e=>h ac))
 generalize (Dy q).mergeSort (fun x y=>decide (x<=y))=m at *;obtain⟨r,hr⟩:∃r:List Nat,m=Dy r:=by
  refine⟨m.map Int.toNat,?_⟩;unfold Dy;rw[List.map_map];have:∀x∈m,((fun (x:Nat)=>(x:Int)) ∘ Int.toNat) x=x:=fun x hx=>by
   obtain⟨y,_,rfl⟩:=List.mem_map.1 (hp.mem_iff.1 hx);rfl
  rw[List.map_congr_left this,List.map_id']
 subst hr;unfold Q6;show Dy r=Dy _
 congr 1
 refine Qi ?_ (Vo n S i) fun x=>?_
 .have h1:(Dy r).Pairwise (fun x y=>decide (x<=y)=true/\x≠y):=hs.and (List.nodup_iff_pairwise_ne.1 aA);unfold Dy at h1;rw[List.pairwise_map]at h1;exact h1.imp fun {a b} h=>by have:=of_decide_eq_true h.1;have:=h.2;omega
 .rw[VC];have h2:x∈r↔(x:Int)∈Dy r:=by
   exact zbG
  have h3:x∈q↔(x:Int)∈Dy q:=by
   exact zbG
  rw[h2,hp.mem_iff,<-h3,hq];exact⟨fun h=>⟨h.lt hS hi,h⟩,fun h=>h.2⟩
open Classical in
noncomputable def CA (S:List (Nat->Nat)) (i:Nat) (q:List Nat):Nat->Bool:=fun x=>decide (FT S i x∨x∈q)
open Classical in
theorem Iw (S:List (Nat->Nat)) (i x:Nat):CA S i [] x=decide (FT S i x):=by unfold CA;simp
open Classical in
theorem Mg (S:List (Nat->Nat)) (i:Nat) (q:List Nat) (x:Nat):Az (CA S i q) x true=CA S i (q ++ [x]):=by
 funext y;unfold Az CA;by_cases h:y=x
 .subst h;simp
 .simp[h]
open Classical in
theorem TD {n:Nat} {S:List (Nat->Nat)} (hS:∀s∈S,Bw n s) {i:Nat} {q:List Nat} (hq:∀y,y∈q↔D4 S i y) (x:Nat):CA S i q x=CA S (i+1) [] x:=by
 unfold CA;rw[Bool.eq_iff_iff];simp only[decide_eq_true_eq,List.not_mem_nil,or_false];rw[J4 hS,hq]
open Classical in
theorem UY {n:Nat} {S:List (Nat->Nat)} (hS:∀s∈S,Bw n s) {i:Nat} (h:¬Oq S i) (x:Nat):CA S i [] x=CA S (i+1) [] x:=by
 unfold CA;rw[Bool.eq_iff_iff];simp only[decide_eq_true_eq,List.not_mem_nil,or_false];exact(UX hS h).symm
noncomputable def Hr(n:Int)(rows:List (List Int)):List (List Int) × Int:=if Ef n rows≠0 then([],Ef n rows) else(Dq n.toNat (rows.map Dg) n.toNat,0)
def OrbR(n:Int)(rows:List (List Int))(r:Ending)(w':World):Prop:=∃v,r= .returned (.tuple #[v,.int .i64 (Hr n rows).2])/\BO w' v (Hr n rows).1
theorem Nu{n:Int}{rows k:List (List Int)}{e:Int}{v:Value}{w':World}(h:Hr n rows=(k,e))(hv:BO w' v k):OrbR n rows (.returned (.tuple #[v,.int .i64 e])) w':=⟨v,by rw[h],by rw[h];exact hv⟩
theorem Ht{N:Nat}{S:List (Nat->Nat)}(hS:∀s∈S,Bw N s):(S.map (li N)).map Dg=S:=by
 rw[List.map_map];have:∀s∈S,(Dg ∘ li N) s=s:=fun s hs=>KQ (hS s hs);rw[List.map_congr_left this,List.map_id']
theorem zce{P:Prop}(h:P:=by
 rw[BC.o.sn.cell bG];show some (Value.bool (CA S i q (s x)))=_
 unfold CA;simp[hm]):P:=h
theorem RN(bQ:RL)(w:World)(n:Int)(rows:List (List Int))(v:Value)(hv:BO w v rows)(hrl:rows.length<=1000):
  Calls Tryz.prog 65 #[.int .i64 n,v] w fun r w'=>OrbR n rows r w'/\Ex w w':=by
 have HV:=Aa hv;have HG:=Aa (Gh w n rows v hv);obtain⟨a,cap,rfl,_,s2,_⟩:=hv.open;unfold maxLen at s2;obtain⟨e,he⟩:=nA (Ef n rows);rw[he]at HG;clear hv;by_cases h0:e=0
 .subst h0;obtain⟨N,rfl,hN1,bS,S,aP,hS⟩:=JM he;obtain⟨HP,HS,bU,HN⟩:=Eq (show Hr N rows=(Dq N S N,0) from by unfold Hr;rw[he,if_neg ae,aP,Ht hS];rfl) hS aP bS;have bJ:S.length=rows.length:=by rw[aP];simp
  have bN:=Aa bJ;clear he hS aP bJ;go_enter Tryz.func65,Tryz.ntmps65
  go_wp2_with (first|(go_at_call 124;refine HG.o.mono ?_;rintro e w1⟨rfl,aJ⟩;have aQ:=Aa aJ;clear aJ)|(at_make;refine Aq _ rfl _ _ 168 rfl 4 (.bool false) 1 Tryz.underlying168 KE rfl _ N rfl rfl rfl ac ai ?_))
  intro w3 aC bE;have aE:=Aa (Cq.start aC bE (sf:=CA S 0 []) fun x _=>by
   rw[Iw];simp[FT])
  clear aC bE;obtain⟨g,hg⟩:=nA w1.heap.size
  try simp only[hg]at aE ⊢
  clear hg;go_wp2_with fail
  go_loopw [24,8,10] (fun i' bT aO wr=>∃(i:Nat) (vals:List Value),i<=N/\i'= .int .i64 i/\Hia (Cq w1 wr (g+1) g N (CA S i []) (.slice none 0 0) [] bT (Dq N S i) vals)) (fun i' _ _ _=>N-(intOf i').toNat)
  case atStart=>exact⟨0,_,ac,rfl,aE⟩
  case round=>
   clear aE;obtain⟨i,vals,hi,rfl,BC⟩:=hrel;obtain⟨bL,bK,bR⟩:=Ad BC.o.m.cvo;subst bR;have cB:=Aa (TP N S i);by_cases hin:i<N
   .have i1:(0:Int)<=(i:Int):=by omega
    have i2:(i:Int)<(N:Int):=ac;have c2:=BC.o.sn.frz i;by_cases hl:Oq S i
    .have c1:wr.cell? ⟨g,i,none⟩=some (.bool false):=by
      rw[BC.o.sn.cell hin];show some (Value.bool (CA S i [] i))=_
      rw[Iw];have:¬FT S i i:=fun h=>GV.1 h hl;simp[this]
     have HL:=Aa hl;have bF:(wr.setCell ⟨g,i,none⟩ (.bool true)).heap.size=wr.heap.size:=b8;have bB:=Aa (((BC.o.mark i).congr (sf':=CA S i [i]) fun x _=>by rw[Mg];rfl).lit (i:Int));rw[bF]at bB;have aN:=Aa (ED.start N S i);clear BC hl bF;go_wp2_with fail
     generalize (wr.setCell ⟨g,i,none⟩ (.bool true)).alloc (.cells #[.int .i64 (i:Int)] 3)=wm at *
     go_loopg [10,11] N (fun gk aO k' wr=>∃(q:List Nat) (k:Nat),k<=(Dy q).length/\N-k<=gk/\k'= .int .i64 k/\Hia (Cq w1 wr (g+1) g N (CA S i q) aO (Dy q) (.slice bL (Dq N S i).length bK) (Dq N S i) vals)/\Hia (ED N S i q k 0))
     case atStart=>exact⟨[i],0,ac,ac,rfl,bB,aN⟩
     case round=>
      clear bB aN c1 c2;obtain⟨q,k,hk,aV,rfl,BC,aA⟩:=hrel;have aK:=aA.o.len HS.o hin;rw[<-CE]at aK;obtain⟨aH,bH⟩:=aK;by_cases aF:k<(Dy q).length
      .have bO:=Aa (show k<N from ac);have cA:=Aa aV;have b1:decide ((k:Int)<((Dy q).length:Int))=true:=by simp;omega
       obtain⟨ob,oc,aL,aG,aB⟩:=Fh BC.o.cy aH;subst aL;unfold maxLen at aB;clear aG aB;go_wp2_with fail
       go_loopw [10,44] (fun aO g' wr=>∃(q:List Nat) (t:Nat),t<=rows.length/\g'= .int .i64 t/\k<q.length/\Hia (Cq w1 wr (g+1) g N (CA S i q) aO (Dy q) (.slice bL (Dq N S i).length bK) (Dq N S i) vals)/\Hia (ED N S i q k t)) (fun _ g' _=>rows.length-(intOf g').toNat)
       case atStart=>exact⟨q,0,ac,rfl,by rw[<-CE];exact aF,BC,aA⟩
       case round=>
        clear BC aA aF hk aV aH bH b1;obtain⟨q,t,ht,rfl,aF,BC,aA⟩:=hrel;have aK:=aA.o.len HS.o hin;rw[<-CE]at aK;obtain⟨aH,bH⟩:=aK;obtain⟨ob,oc,aL,aG,aB⟩:=Fh BC.o.cy aH;subst aL;unfold maxLen at aB;by_cases htr:t<rows.length
        .obtain⟨s,hs⟩:∃s,S[t]?=some s:=⟨_,List.getElem?_eq_getElem (by rw[bN.o];exact htr)⟩;obtain⟨x,hx⟩:∃x,q[k]?=some x:=⟨_,List.getElem?_eq_getElem aF⟩;have aT:rows[t]?=some (li N s):=by rw[bU.o,List.getElem?_map,hs];rfl
         have aS:=HS.o s (List.mem_of_getElem? hs);have bD:=aA.o.lt HS.o hin x (List.mem_of_getElem? hx);have bG:=aS.lt x bD;obtain⟨_,_,e1,_,_,h3⟩:=(HV.o.ex (aQ.o.trans BC.o.ex)).open;injection e1 with e1 e2 e3;subst e1 e3;obtain⟨zb,zo,rfl,aR⟩:=h3 ac;obtain⟨u,d1,hu⟩:=aR t _ aT;obtain⟨ua,uc,rfl,_,_,_⟩:=E9 hu;obtain⟨pb,po,rfl,_,aU⟩:=Fn hu ac;have d2:=aU x bD;have d3:wr.cell? ⟨ob,k,none⟩=some (.int .i64 (x:Int)):=by
          rw[World.ownsRow.cellAt BC.o.cy k (by rw[CE];omega)];exact PC (YE hx)
         have d4:=BC.o.sn.frz (s x);have i3:(0:Int)<=(t:Int):=ac;have i4:(t:Int)<(rows.length:Int):=ac;have i5:(0:Int)<=(k:Int):=ac;have i6:(k:Int)<((Dy q).length:Int):=by rw[CE];omega
         have i7:(0:Int)<=(x:Int):=ac;have i8:(x:Int)<(N:Int):=ac;have i9:(0:Int)<=(s x:Int):=ac;have i10:(s x:Int)<(N:Int):=ac;have aM:=aA;by_cases hm:FT S i (s x)∨s x∈q
         .have d5:wr.cell? ⟨g,s x,none⟩=some (.bool true):=by
           exact zce
          have aI:=Aa (aA.o.hit hx hs (aA.o.seen HL.o hx hs hm));have aE:=Aa BC.o;clear BC aA aM hm aR h3 hu aU hs hx aT aS;go_wp2_with fail
          go_roundw
          case rel=>exact⟨q,t+1,ac,by go_num,aF,aE,aI⟩
          case measure=>simp[intOf];omega
         .have d5:wr.cell? ⟨g,s x,none⟩=some (.bool false):=by
           exact zce
          have aI:=Aa (aA.o.new hx hs (fun h=>hm (.inr h)));have bA:=Aa ((BC.o.mark (s x)).congr (sf':=CA S i (q ++ [s x])) fun y _=>by rw[Mg]);have aW:=Aa bA.o.wb;have cC:=Aa (SK q (s x));clear BC aA aM hm aR h3 hu aU hs hx aT aS;generalize hWW:wr.setCell ⟨g,s x,none⟩ (.bool true)=wm at *;go_wp2_with (at_builtin;refine Al _ rfl _ _ 22 rfl (g+1) 3 (.int .i64 0) 1 8 Tryz.underlying22 AA rfl ae _ (Dy q).length _ rfl bA.o.cy [.int .i64 (s x:Int)] 3 _ rfl ag rfl aj ai ac aW.o ?_)
          intro oy2 w4 aD;have aZ:=Aa (bA.o.app aD);rw[<-cC.o]at aZ;clear aD;go_wp2_with fail
          go_roundw
          case rel=>first|exact⟨q ++ [s x],t+1,ac,by go_num,by rw[List.length_append];omega,aZ,aI⟩|((repeat apply Exists.intro);exact⟨⟨q ++ [s x],t+1,ac,by go_num,by rw[List.length_append];omega,aZ,aI⟩,rfl⟩)
          case measure=>simp[intOf];omega
        .obtain rfl:t=rows.length:=by omega
         have aI:=Aa (aA.o.next (by rw[bN.o];exact Nat.le_refl _));have aE:=Aa BC.o;have bZ:=Aa aF;have hk64:k<=64:=by have:=bO.o;have:=HN.o;omega
         clear BC aA aF;go_wp2_with fail
         go_roundg (N-(k+1))
         case rel=>exact⟨q,k+1,by rw[CE];have:=bZ.o;omega,ac,by go_num,aE,aI⟩
         case measure=>have:=bO.o;have:=cA.o;omega
      .obtain rfl:k=(Dy q).length:=by omega
       have bP:=Aa (fun y=>aA.o.fin (by rw[CE];exact Nat.le_refl _) y);have bV:=Aa (UO HS.o hin aA.o.nd bP.o);have bM:=Aa (BC.o.congr (sf':=CA S (i+1) []) fun x _=>TD HS.o bP.o x);have aE:=Aa (bQ wr (g+1) _ (Dy q) bM.o.cy aH ac);obtain⟨ob,oc,aL,aG,aB⟩:=Fh BC.o.cy aH;subst aL;unfold maxLen at aB;have bC:=Aa ((Km N S i).1 HL.o);have bY:=Aa (show((Dy q).mergeSort fun x y=>decide (x<=y)).length=(Dy q).length from List.length_mergeSort _);have hml:(Dq N S i).length<=64:=by have:=cB.o;have:=HN.o;omega
       clear BC aA aF hk aV;go_wp2_with (first|(go_at_call 125;refine aE.o.mono ?_;rintro e w5⟨rfl,aC,bI⟩;have aY:=Aa (bM.o.turn bY.o aC bI);have aW:=Aa aY.o.wb;clear aC bI)|(at_builtin;refine Al _ rfl _ _ 37 rfl (g+1) 22 (.slice none 0 0) 1 24 Tryz.underlying37 BH rfl ae _ (Dq N S i).length _ rfl aY.o.m.cvo [.slice (some ⟨ob,0,none⟩) (Dy q).length oc] 22 _ rfl ag rfl aj ai ac aW.o ?_))
       intro cv2 w6 aD;have aX:=Aa (aY.o.push aD);rw[bV.o,<-bC.o]at aX;clear aD;go_wp2_with fail
       go_roundw
       case rel=>first|exact⟨i+1,_,ac,by go_num,aX⟩|((repeat apply Exists.intro);exact⟨⟨i+1,_,ac,by go_num,aX⟩,rfl⟩)
       case measure=>simp[intOf];omega
    .have c1:wr.cell? ⟨g,i,none⟩=some (.bool true):=by
      rw[BC.o.sn.cell hin];show some (Value.bool (CA S i [] i))=_
      rw[Iw];have:FT S i i:=GV.2 hl;simp[this]
     have bW:=Aa (BC.o.congr fun x hx=>UY HS.o hl x);have bC:=Aa ((Km N S i).2 hl);clear BC hl;go_wp2_with fail
     go_roundw
     case rel=>exact⟨i+1,vals,ac,by go_num,by rw[bC.o];exact bW⟩
     case measure=>simp[intOf];omega
   .obtain rfl:i=N:=by omega
    have bX:=Aa (BC.o.m.msl);have HX:=Aa (aQ.o.trans BC.o.ex);clear BC;go_wp2_with fail
    go_ret2;exact⟨Nu HP.o bX.o,HX.o⟩
 .have HP:=Aa (show Hr n rows=([],e) from by unfold Hr;rw[he,if_pos h0]);have hb:(e !=0)=true:=by simpa using h0
  clear h0 he;go_enter Tryz.func65,Tryz.ntmps65
  go_wp2_with (go_at_call 124;refine HG.o.mono ?_;rintro e w1⟨rfl,aJ⟩;have aQ:=Aa aJ;clear aJ)
  go_ret2;exact⟨Nu HP.o (Yj _),aQ.o⟩
end Go.Proofs.YtehieobniamagaaGreat
