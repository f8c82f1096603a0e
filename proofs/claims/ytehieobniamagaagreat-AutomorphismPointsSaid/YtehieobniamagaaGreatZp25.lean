/- Walk of automorphism.from (printed by gen_frm.py). -/
import Derived.Deep.CutRange
import Derived.Test.YtehieobniamagaaGreatZp06
import Derived.Test.YtehieobniamagaaGreatZp12
import Derived.Test.YtehieobniamagaaGreatZp13
import Derived.Test.YtehieobniamagaaGreatZp14
import Derived.Test.YtehieobniamagaaGreatZp23
import Derived.Test.YtehieobniamagaaGreatZp24
namespace Go.Proofs.YtehieobniamagaaGreat
set_option linter.unusedVariables false
set_option linter.unusedSimpArgs false
set_option maxRecDepth 100000
set_option maxHeartbeats 8000000
section
open Go.RowKit
def BW(Q:Nat)(P:List Int)(i:Nat):Int:=P.getD (i*Q) 0/(Q:Int)
def Cj(Q:Nat)(P:List Int)(i:Nat):Int:=P.getD (i*Q) 0%(Q:Int)+1
def JK(p m:Nat)(ml:List Int)(N:Nat)(P:List Int):Bool:=decide (Fu p m ml (il N (BW (p^m-1) P)) (il N (Cj (p^m-1) P))=P)
section
variable {b p m x0:Nat} {ml:List Int}
theorem zaJ{P:Prop}(h:P:=by
 have e9:=T 9 _ rfl;clear T;go_simp;exact hK _ (.refl w)):P:=h
theorem zaK{P:Prop}(h:P:=by
 have e8:=T 8 _ rfl;clear T;go_simp;exact hK _ (.refl w)):P:=h
theorem zbx{P:Prop}(h:P:=by
 have k9:IntKind.i64.wrap ((R:Int)+1)=(R:Int)+1:=IntWalk.i64_in _ (by omega);clear T;go_simp;exact hK _ (.refl w)):P:=h
theorem zbA{P:Prop}(h:P:=by
 have k9:IntKind.i64.wrap ((Q:Int))=(Q:Int):=IntWalk.i64_in _ (by omega);clear T;go_simp;exact hK _ (.refl w)):P:=h
theorem dw{P:Prop}(h:P:=by rw[<-hB];simp):P:=h
theorem NU(w:World)(hg:AR w b p m ml x0)(N:Nat)(hN1:1<=N)(hN:N<=64)(P:List Int)(pv:Value)(hp:Ak w pv P)(hd:N*(p^m-1)<=64)(aA:P.length=N*(p^m-1))(aT:∀x∈P,0<=x/\x<(P.length:Int)):
  Calls Tryz.prog 58 #[.pointer (some ⟨b,0,none⟩),.int .i64 N,pv] w fun r w'=>∃u v,r= .returned (.tuple #[.agg #[u,v,.int .i64 0],.bool (JK p m ml N P)])/\Ak w' u (il N (BW (p^m-1) P))/\Ak w' v (il N (Cj (p^m-1) P))/\((∀X,u.ownBlock=some X->w.heap.size<=X)/\∀X,v.ownBlock=some X->w.heap.size<=X)/\Ex w w':=by
 have HG:=Aa hg;have bX:2<=p^m:=Nat.le_trans hg.sh.p2 (Nat.le_self_pow (by have:=hg.sh.m1;omega) p);have bW:=hg.sh.q;have bP:=Aa (fun w1 (h:Ex w w1)=>BR w1 (hg.ex h));have bB:=Aa (fun (w1:World) (h:Ex w w1) (pl sl:List Int) (u v:Value) (hp:Ak w1 u pl) (hs:Ak w1 v sl) (h1:pl.length=N) (h2:sl.length=N) (h3:Bq pl N=true)=>Pb w1 (hg.ex h) N hN pl sl u v hp hs h1 h2 h3 hd 0);obtain⟨BE,aX⟩:∃b,JK p m ml N P=b:=⟨_,rfl⟩;have bF:=Aa (show decide (il (N*(p^m-1)) (Jt p m ml (il N (BW (p^m-1) P)) (il N (Cj (p^m-1) P)))=P)=BE from by
  rw[<-aX];unfold JK Fu;rw[Aj])
 rw[aX];obtain⟨pa,pc,rfl,z1,z2,p3⟩:=hp.open;unfold maxLen at z2;have P3:=Aa p3;have HP:=Aa hp;obtain⟨q,hq⟩:=nA (p^m);obtain⟨Q,hQ⟩:=nA (q-1);rw[hq]at bP bB bF bX bW hd aA ⊢;rw[hQ]at bB bF hd aA ⊢;have kQ:(q:Int)-1=(Q:Int):=ac;have bZ:1<=Q:=ac;obtain⟨PN,aV⟩:∃n,P.length=n:=⟨_,rfl⟩;rw[aV]at aA aT p3 P3 z1 HP ⊢;have bO:=Aa (show ∀i,i<N->∃X:Nat,P.getD (i*Q) 0=(X:Int)/\i*Q<PN/\X<PN from fun i hi=>by
  have h1:i*Q<PN:=by rw[aA];exact Nat.mul_lt_mul_of_pos_right hi bZ
  obtain⟨h2,h3⟩:=aT (P.getD (i*Q) 0) (List.mem_of_getElem? (Ay ac));exact⟨(P.getD (i*Q) 0).toNat,ac,h1,ac⟩)
 have cM:=Aa (fun i (hi:i<PN)=>Ay (l:=P) (i:=i) ac);have HPN:=Aa aV;have HLN:=Aa aA;have HD:=Aa (show PN<=64 from ac);have cE:=Aa (show ∀X:Nat,X<PN->X/Q<N from fun X hX=>Nat.div_lt_of_lt_mul (by rw[Nat.mul_comm,<-aA];exact hX));clear hg hp aT aA hd aV p3 aX hq hQ;have kq0:¬(Q:Int)=0:=by omega
 have kq1:¬Q=0:=ac;have kqb:Q<=255:=ac;go_enter Tryz.func58,Tryz.ntmps58
 go_upto_region 1 with fail
 obtain⟨B0,hB⟩:∃B,w.heap.size=B:=⟨_,rfl⟩;have r0:(w.alloc (.cells #[.slice none 0 0,.slice none 0 0,.int .i64 0] 26)).cell? ⟨B0,0,none⟩=some (.slice none 0 0):=dw;have r1:(w.alloc (.cells #[.slice none 0 0,.slice none 0 0,.int .i64 0] 26)).cell? ⟨B0,1,none⟩=some (.slice none 0 0):=dw;have r2:(w.alloc (.cells #[.slice none 0 0,.slice none 0 0,.int .i64 0] 26)).cell? ⟨B0,2,none⟩=some (.int .i64 0):=dw;have s0:(w.alloc (.cells #[.slice none 0 0,.slice none 0 0,.int .i64 0] 26)).frozen? ⟨B0,0,none⟩=false:=dw;have s1:(w.alloc (.cells #[.slice none 0 0,.slice none 0 0,.int .i64 0] 26)).frozen? ⟨B0,1,none⟩=false:=dw;have s2:(w.alloc (.cells #[.slice none 0 0,.slice none 0 0,.int .i64 0] 26)).frozen? ⟨B0,2,none⟩=false:=dw;have aN:=Aa (show Ex w (w.alloc (.cells #[.slice none 0 0,.slice none 0 0,.int .i64 0] 26)) from(Ex.refl w).alloc _);have bM:=Aa (show(w.alloc (.cells #[.slice none 0 0,.slice none 0 0,.int .i64 0] 26)).heap.size=B0+1 from by simp[hB])
 try simp only[hB]
 have cO:=Aa hB;clear hB;generalize w.alloc (.cells #[.slice none 0 0,.slice none 0 0,.int .i64 0] 26)=w3 at *;have bN:=Aa (show ∀w',Ex w3 w'->w'.cell? ⟨B0,0,none⟩=some (.slice none 0 0)/\w'.cell? ⟨B0,1,none⟩=some (.slice none 0 0)/\w'.cell? ⟨B0,2,none⟩=some (.int .i64 0)/\w'.frozen? ⟨B0,0,none⟩=false/\w'.frozen? ⟨B0,1,none⟩=false/\w'.frozen? ⟨B0,2,none⟩=false from
  fun w' h=>⟨h.cell r0,h.cell r1,h.cell r2,h.frz r0 s0,h.frz r1 s1,h.frz r2 s2⟩)
 go_upto_region 2 with (go_at_call 54;refine(bP.o w3 aN.o).mono ?_;rintro e w2⟨rfl,rfl⟩)
 obtain⟨B1,aY⟩:∃B,w3.heap.size=B:=⟨_,rfl⟩;have bE:=Aa (E6.new w3 0);rw[aY]at bE;have bT:=Aa aY;clear r0 r1 r2 s0 s1 s2 aY;go_upto_region 3 with fail
 try simp only[bT.o]
 generalize w3.alloc (.cells #[.slice none 0 0,.slice none 0 0,.int .i64 0] 26)=w4 at *;go_wp2_with fail
 go_loopw [15] (fun i' wr=>∃(i:Nat) (pv sv:Value),i<=N/\i'= .int .i64 i/\Hia (E6 w3 wr B1 0 pv sv (il i (BW Q P)) (il i (Cj Q P)))) (fun i' _=>N-(intOf i').toNat)
 case atStart=>exact⟨0,_,_,ac,rfl,bE⟩
 case round=>
  clear bE;obtain⟨i,pv,sv,hi,rfl,HC⟩:=hrel;by_cases aB:i<N
  .obtain⟨X,hX,bL,bY⟩:=bO.o i aB;obtain⟨A,hA⟩:=nA (X/Q);obtain⟨R,hR⟩:=nA (X%Q);have cL:=Aa (show il (i+1) (BW Q P)=il i (BW Q P) ++ [(A:Int)] from by rw[IS];unfold BW;rw[hX,<-hA];norm_cast);have cK:=Aa (show il (i+1) (Cj Q P)=il i (Cj Q P) ++ [(R:Int)+1] from by rw[IS];unfold Cj;rw[hX,<-hR];norm_cast);have kd:(X:Int).tdiv (Q:Int)=(A:Int):=by rw[Int.tdiv_eq_ediv_of_nonneg ac,<-hA];norm_cast
   have kr:(X:Int).tmod (Q:Int)=(R:Int):=by rw[Int.tmod_eq_emod_of_nonneg ac,<-hR];norm_cast
   have hAb:A<=64:=by rw[<-hA];exact Nat.le_trans (Nat.div_le_self _ _) (by have:=HD.o;omega)
   have hRb:R<=64:=by rw[<-hR];exact Nat.le_trans (Nat.mod_le _ _) (by have:=HD.o;omega)
   obtain⟨pb,po,rfl,bJ⟩:=P3.o ac;have cx:=(aN.o.trans HC.o.ex).cell (bJ _ _ (cM.o _ bL));rw[hX]at cx;obtain⟨IQ,aW⟩:∃z,i*Q=z:=⟨_,rfl⟩;rw[aW]at cx bL;have kI:(i:Int)*(Q:Int)=(IQ:Int):=by rw[<-aW];norm_cast
   have i1:(0:Int)<=(IQ:Int):=ac;have i2:(IQ:Int)<(PN:Int):=ac;have aQ:=Aa (show(il i (BW Q P)).length<=64/\(il i (Cj Q P)).length<=64 from by rw[Aj,Aj];omega);have aE:=Aa hN;obtain⟨va,vc,rfl⟩:=Ac HC.o.o0;obtain⟨ua,uc,rfl⟩:=Ac HC.o.o1;have HCW:=Aa HC.o.ex;have D0:=Aa HC.o.b0;have bC:=Aa aB;clear hX hA hR bJ aW aB bY;go_wp2_with fail
   go_upto_region 7 with fail
   clear cx kI i1 i2
   go_cut [25] from 25 to 33 (fun _ wx=>∃aH aG,Hia (E6 w3 wx B1 0 (.slice aH (il (i+1) (BW Q P)).length aG) (.slice ua (il i (Cj Q P)).length uc) (il (i+1) (BW Q P)) (il i (Cj Q P))))
   case first=>
    refine DG (fun k=>([.pointer (some ⟨B1,0,none⟩),.slice va (il i (BW Q P)).length vc,.int .i64 (X:Int),.int .i64 (q:Int),.int .i64 (Q:Int),.int .i64 (A:Int),undef,undef,.pointer (some ⟨B1,0,none⟩)]:List Value).getD k undef) 6 7 8 9 (.int .i64 (A:Int)) 3 (fun v w=>∃w1,E6 w3 w1 B1 0 (.slice va (il i (BW Q P)).length vc) (.slice ua (il i (Cj Q P)).length uc) (il i (BW Q P)) (il i (Cj Q P))/\Oz w1 w w3.heap.size 3 1 (.slice va (il i (BW Q P)).length vc) v (il i (BW Q P)).length (Am (il i (BW Q P))) [.int .i64 (A:Int)]) (fun v w=>E6 w3 w B1 0 v (.slice ua (il i (Cj Q P)).length uc) ((il i (BW Q P)) ++ [(A:Int)]) (il i (Cj Q P))) ah ah ah ?_ ?_ ?_ ?_ (fun B v k=>([.pointer (some ⟨B1,0,none⟩),.slice va (il i (BW Q P)).length vc,.int .i64 (X:Int),.int .i64 (q:Int),.int .i64 (Q:Int),.int .i64 (A:Int),.slice (some ⟨B,0,none⟩) 1 1,v,.pointer (some ⟨B1,0,none⟩)]:List Value).getD k undef) (fun _ _=>rfl) ?_
    .simp only[AC];refine⟨?_,?_,?_,?_,?_,?_,?_,?_,?_,?_,trivial⟩
     all_goals first|exact EL.sk ae|refine EL.go ae fun a w T hx K hK=>?_|refine EL.gf ae fun a w T K hK=>?_
     .exact zaJ
     .have e25:=T 25 _ rfl;have q1:=hx.cell D0.o;clear T;go_simp;exact hK _ (.refl w)
     .have cA:=T 11 _ rfl;clear T;go_simp;exact hK _ (.refl w)
     .exact zaK
     .have e28:=T 28 _ rfl;exact zbA
     .have e27:=T 27 _ rfl;have e29:=T 29 _ rfl;have k9:IntKind.i64.wrap ((A:Int))=(A:Int):=IntWalk.i64_in _ ac;clear T;go_simp;exact hK _ (.refl w)
     .have e9:=T 9 _ rfl;clear T;go_simp;exact hK
    .intro o a w1 K ho hx aB hK;injection (show some _=some o from ho) with ho;subst ho;have e30:=aB 5 30 _ ah ae ae ae rfl rfl;clear aB;go_simp;exact hK
    .intro o ob a w1 B8 K ho aK hx aS aU aB hA;injection (show some _=some o from ho) with ho;subst ho;injection (show some _=some ob from aK) with aK;subst aK;have e1:=Bc (aB 1 26 _ ah ae ae ae rfl rfl);have e2:=Bc (aS 31 rfl);refine BB _ _ 22 rfl w3.heap.size 3 (.int .i64 0) 1 8 Tryz.underlying22 Aw rfl ae (.slice va (il i (BW Q P)).length vc) (il i (BW Q P)).length (Am (il i (BW Q P))) e1 ((HC.o.later hx).o0) _ 1 [.int .i64 (A:Int)] e2 (IA aU) ak (by have:=aQ.o.1;have:=aE.o;unfold maxLen;omega) (by have:=aQ.o.1;have:=aE.o;omega) ((HC.o.later hx).ex.size) ?_;intro v' w' aI hg ha;exact hA v' w' (⟨w1,HC.o.later hx,⟨aI,hg,ha,(HC.o.later hx).o0⟩⟩)
    .intro o oa of a w1 v K ho aL aJ hA h1 h2 hK;injection (show some _=some o from ho) with ho;subst ho;injection (show some _=some oa from aL) with aL;subst aL;injection (show some _=some of from aJ) with aJ;subst aJ;have e1:=h1 32 rfl;have e2:=h2 33 rfl;obtain⟨w2,aM,aD⟩:=hA;obtain⟨g1,g2⟩:=aM.at0g aD;have aC:=aM.app0g aD;obtain⟨aH,aG,rfl⟩:=Ac aD.own;clear aM aD h1 h2;have bD:=Aa aC;clear aC;go_simp;exact hK _ bD.o
    .intro B8 v w1 hF;rw[<-cL.o]at hF;obtain⟨aH,aG,bI⟩:=Ac hF.o0;rw[bI]at hF;have HF:=Aa hF;clear hF bI;simp only[BU,Act.put,List.setIfInBounds_toArray,List.set_cons_zero,List.set_cons_succ];go_wp2_with fail
     go_meet
     exact⟨aH,aG,HF⟩
   case rest=>
    obtain⟨aH,aG,bK⟩:=hcut;have aP:=Aa bK.o;clear bK;have HCX:=Aa aP.o.ex;have D1:=Aa aP.o.b1;go_upto_region 8 with fail
    refine DG (fun k=>([.pointer (some ⟨B1,1,none⟩),.slice ua (il i (Cj Q P)).length uc,.int .i64 (X:Int),.int .i64 (q:Int),.int .i64 (Q:Int),.int .i64 (R:Int),.int .i64 ((R:Int)+1),undef,undef,.pointer (some ⟨B1,1,none⟩)]:List Value).getD k undef) 7 8 9 10 (.int .i64 ((R:Int)+1)) 3 (fun v w=>∃w1,E6 w3 w1 B1 0 (.slice aH (il (i+1) (BW Q P)).length aG) (.slice ua (il i (Cj Q P)).length uc) (il (i+1) (BW Q P)) (il i (Cj Q P))/\Oz w1 w w3.heap.size 3 1 (.slice ua (il i (Cj Q P)).length uc) v (il i (Cj Q P)).length (Am (il i (Cj Q P))) [.int .i64 ((R:Int)+1)]) (fun v w=>E6 w3 w B1 0 (.slice aH (il (i+1) (BW Q P)).length aG) v (il (i+1) (BW Q P)) ((il i (Cj Q P)) ++ [(R:Int)+1])) ah ah ah ?_ ?_ ?_ ?_ (fun B v k=>([.pointer (some ⟨B1,1,none⟩),.slice ua (il i (Cj Q P)).length uc,.int .i64 (X:Int),.int .i64 (q:Int),.int .i64 (Q:Int),.int .i64 (R:Int),.int .i64 ((R:Int)+1),.slice (some ⟨B,0,none⟩) 1 1,v,.pointer (some ⟨B1,1,none⟩)]:List Value).getD k undef) (fun _ _=>rfl) ?_
    .simp only[AC];refine⟨?_,?_,?_,?_,?_,?_,?_,?_,?_,?_,?_,trivial⟩
     all_goals first|exact EL.sk ae|refine EL.go ae fun a w T hx K hK=>?_|refine EL.gf ae fun a w T K hK=>?_
     .exact zaJ
     .have e34:=T 34 _ rfl;have q1:=hx.cell D1.o;clear T;go_simp;exact hK _ (.refl w)
     .have cA:=T 11 _ rfl;clear T;go_simp;exact hK _ (.refl w)
     .exact zaK
     .have e37:=T 37 _ rfl;exact zbA
     .have e36:=T 36 _ rfl;have e38:=T 38 _ rfl;have k9:IntKind.i64.wrap ((R:Int))=(R:Int):=IntWalk.i64_in _ ac;clear T;go_simp;exact hK _ (.refl w)
     .have e39:=T 39 _ rfl;exact zbx
     .have e9:=T 9 _ rfl;clear T;go_simp;exact hK
    .intro o a w1 K ho hx aB hK;injection (show some _=some o from ho) with ho;subst ho;have e40:=aB 6 40 _ ah ae ae ae rfl rfl;clear aB;go_simp;exact hK
    .intro o ob a w1 B8 K ho aK hx aS aU aB hA;injection (show some _=some o from ho) with ho;subst ho;injection (show some _=some ob from aK) with aK;subst aK;have e1:=Bc (aB 1 35 _ ah ae ae ae rfl rfl);have e2:=Bc (aS 41 rfl);refine BB _ _ 22 rfl w3.heap.size 3 (.int .i64 0) 1 8 Tryz.underlying22 Aw rfl ae (.slice ua (il i (Cj Q P)).length uc) (il i (Cj Q P)).length (Am (il i (Cj Q P))) e1 ((aP.o.later hx).o1) _ 1 [.int .i64 ((R:Int)+1)] e2 (IA aU) ak (by have:=aQ.o.2;have:=aE.o;unfold maxLen;omega) (by have:=aQ.o.2;have:=aE.o;omega) ((aP.o.later hx).ex.size) ?_;intro v' w' aI hg ha;exact hA v' w' (⟨w1,aP.o.later hx,⟨aI,hg,ha,(aP.o.later hx).o1⟩⟩)
    .intro o oa of a w1 v K ho aL aJ hA h1 h2 hK;injection (show some _=some o from ho) with ho;subst ho;injection (show some _=some oa from aL) with aL;subst aL;injection (show some _=some of from aJ) with aJ;subst aJ;have e1:=h1 42 rfl;have e2:=h2 43 rfl;obtain⟨w2,aM,aD⟩:=hA;obtain⟨g1,g2⟩:=aM.at1g aD;have aC:=aM.app1g aD;obtain⟨va7,vc7,rfl⟩:=Ac aD.own;clear aM aD h1 h2;have bD:=Aa aC;clear aC;go_simp;exact hK _ bD.o
    .intro B8 v w1 hF;rw[<-cK.o]at hF;have HF:=Aa hF;clear hF;simp only[BU,Act.put,List.setIfInBounds_toArray,List.set_cons_zero,List.set_cons_succ];go_wp2_with fail
     go_roundw
     case rel=>first|exact⟨i+1,_,_,by have:=bC.o;omega,by go_num,HF⟩|((repeat apply Exists.intro);exact⟨⟨i+1,_,_,by have:=bC.o;omega,by go_num,HF⟩,rfl⟩)
     case measure=>have:=bC.o;simp[intOf];omega
  .obtain rfl:i=N:=by omega
   obtain⟨va,vc,rfl⟩:=Ac HC.o.o0;obtain⟨ua,uc,rfl⟩:=Ac HC.o.o1;have HC:=Aa HC.o;have m0:=HC.o.b0;have m1:=HC.o.b1;have m2:=HC.o.b2;have bA:=Aa (show Ak wr (.slice va (il i (BW Q P)).length vc) (il i (BW Q P)) from Sl.own HC.o.o0);have aZ:=Aa (show Ak wr (.slice ua (il i (Cj Q P)).length uc) (il i (Cj Q P)) from Sl.own HC.o.o1);rw[Aj]at bA m0;rw[Aj]at aZ m1;have cI:=Aa (show Bq (il i (BW Q P)) i=true from by
    unfold Bq;rw[List.all_eq_true];intro x hx;unfold il at hx;obtain⟨j,hj,rfl⟩:=List.mem_map.1 hx;rw[List.mem_range]at hj;obtain⟨X,h1,h2,h3⟩:=bO.o j hj;have h4:=cE.o X h3;have h5:BW Q P j=((X/Q:Nat):Int):=by unfold BW;rw[h1];norm_cast
    rw[h5];generalize X/Q=Z at *;exact decide_eq_true ⟨ac,ac⟩)
   have cJ:=Aa (fun w' (h:Ex wr w')=>bB.o w' (aN.o.trans (HC.o.ex.trans h)) _ _ _ _ (bA.o.ex h) (aZ.o.ex h) (Aj _ _) (Aj _ _) cI.o);have cN:=Aa (fun w' (h:Ex wr w') (v:Value) (hv:Ak w' v (il (i*Q) (Jt p m ml (il i (BW Q P)) (il i (Cj Q P)))))=>(by
    have:=Hu w' _ P v (.slice pa PN pc) hv (HP.o.ex (aN.o.trans (HC.o.ex.trans h)));rw[bF.o]at this;exact this:Calls Tryz.prog 101 #[v,.slice pa PN pc] w' fun r w''=>r= .returned (.bool BE)/\∃n,w''=w'.drewN n))
   have HR:=Aa (bN.o wr HC.o.ex);have aF:=Aa (show B0≠B1 from by have:=bT.o;have:=bM.o;omega);have M0:=Aa m0;have M1:=Aa m1;have M2:=Aa m2;have cF:=Aa (aN.o.trans HC.o.ex);clear m0 m1 m2;go_wp2_with fail
   have G0:Ex wr wr.drew:=(Ex.refl wr).drew;have aO:=Aa (fun (w5:World) (h5:Ex wr w5)=>(⟨h5.cell M0.o,h5.cell M1.o,h5.cell M2.o⟩:w5.cell? ⟨B1,0,none⟩=some (.slice va i vc)/\w5.cell? ⟨B1,1,none⟩=some (.slice ua i uc)/\w5.cell? ⟨B1,2,none⟩=some (.int .i64 0)));have cH:=Aa (fun (w5:World) (h5:Ex wr w5)=>bN.o w5 (HC.o.ex.trans h5));have bR:=Aa HC.o.o0;have bQ:=Aa HC.o.o1;have bS:=Aa (show ∀v (L:List Int),wr.ownsRow w3.heap.size 3 1 v L.length (Am L)->∀X,v.ownBlock=some X->X≠B0 from fun v L h X e=>by
    have:=(h.lt X e).1;have:=bM.o;omega)
   have bG:=Aa (fun (w5:World) (h5:Ex wr w5)=>(⟨(World.cell?_setCell_other _ _ _ _ (by intro e;have:=aF.o;simp at e <;> omega)).trans ((World.cell?_setCell_other _ _ _ _ (by intro e;have:=aF.o;simp at e <;> omega)).trans ((World.cell?_setCell_other _ _ _ _ (by intro e;have:=aF.o;simp at e <;> omega)).trans (h5.cell M0.o))),(World.cell?_setCell_other _ _ _ _ (by intro e;have:=aF.o;simp at e <;> omega)).trans ((World.cell?_setCell_other _ _ _ _ (by intro e;have:=aF.o;simp at e <;> omega)).trans ((World.cell?_setCell_other _ _ _ _ (by intro e;have:=aF.o;simp at e <;> omega)).trans (h5.cell M1.o))),(World.cell?_setCell_other _ _ _ _ (by intro e;have:=aF.o;simp at e <;> omega)).trans ((World.cell?_setCell_other _ _ _ _ (by intro e;have:=aF.o;simp at e <;> omega)).trans ((World.cell?_setCell_other _ _ _ _ (by intro e;have:=aF.o;simp at e <;> omega)).trans (h5.cell M2.o)))⟩:(((w5.setCell ⟨B0,0,none⟩ (.slice va i vc)).setCell ⟨B0,1,none⟩ (.slice ua i uc)).setCell ⟨B0,2,none⟩ (.int .i64 0)).cell? ⟨B1,0,none⟩=some (.slice va i vc)/\(((w5.setCell ⟨B0,0,none⟩ (.slice va i vc)).setCell ⟨B0,1,none⟩ (.slice ua i uc)).setCell ⟨B0,2,none⟩ (.int .i64 0)).cell? ⟨B1,1,none⟩=some (.slice ua i uc)/\(((w5.setCell ⟨B0,0,none⟩ (.slice va i vc)).setCell ⟨B0,1,none⟩ (.slice ua i uc)).setCell ⟨B0,2,none⟩ (.int .i64 0)).cell? ⟨B1,2,none⟩=some (.int .i64 0)));clear HC HR
   go_region_held3 (fun w'=>w'.cell? ⟨B1,0,none⟩=some (.slice va i vc)/\w'.cell? ⟨B1,1,none⟩=some (.slice ua i uc)/\w'.cell? ⟨B1,2,none⟩=some (.int .i64 0))
    (first|with_reducible exact bG.o _ X6|with_reducible exact aO.o _ X6|with_reducible exact aO.o _ X5|with_reducible exact aO.o _ G0)
    (first|(go_at_call 55;(with_reducible refine(cJ.o _ G0).mono ?_);rintro e w5⟨v5,rfl,aR,bH⟩;have X5:=G0.trans bH;obtain⟨bV,bU,rfl⟩:=Ac aR;have cG:=Aa (show Ak w5 (.slice bV (i*Q) bU) (il (i*Q) (Jt p m ml (il i (BW Q P)) (il i (Cj Q P)))) from by unfold Ak;rw[Aj,Ch];exact Sl.own aR);clear aR bH)|(go_at_call 101;(with_reducible refine(cN.o _ X5 _ cG.o).mono ?_);rintro e w6⟨rfl,n6,rfl⟩;have X6:=X5.drewN n6;obtain⟨cD,cC,cB,f60,f61,f62⟩:=cH.o _ X6))
   all_goals
    obtain⟨z0,z1,z2⟩:((((w5.drewN n6).setCell ⟨B0,0,none⟩ (.slice va i vc)).setCell ⟨B0,1,none⟩ (.slice ua i uc)).setCell ⟨B0,2,none⟩ (.int .i64 0)).cell? ⟨B0,0,none⟩=some (.slice va i vc)/\((((w5.drewN n6).setCell ⟨B0,0,none⟩ (.slice va i vc)).setCell ⟨B0,1,none⟩ (.slice ua i uc)).setCell ⟨B0,2,none⟩ (.int .i64 0)).cell? ⟨B0,1,none⟩=some (.slice ua i uc)/\((((w5.drewN n6).setCell ⟨B0,0,none⟩ (.slice va i vc)).setCell ⟨B0,1,none⟩ (.slice ua i uc)).setCell ⟨B0,2,none⟩ (.int .i64 0)).cell? ⟨B0,2,none⟩=some (.int .i64 0):=⟨by rw[Ag ae,Ag ae];exact World.cell?_setCell_same _ _ _ cD,by rw[Ag ae];exact World.cell?_setCell_same _ _ _ ((Ag ae).trans cC),World.cell?_setCell_same _ _ _ ((Ag ae).trans ((Ag ae).trans cB))⟩;go_wp2_with fail
    exact bodyPost_ret (v:= .tuple #[.agg #[.slice va i vc,.slice ua i uc,.int .i64 0],.bool BE]) (by simp[results,Tryz.results58,go_sem,z0,z1,z2]) rfl ⟨_,_,rfl,Dq (bA.o.ex X6) (by have:=bS.o _ _ bR.o;rw[Aj]at this;exact this) _ _ _,Dq (aZ.o.ex X6) (by have:=bS.o _ _ bQ.o;rw[Aj]at this;exact this) _ _ _,⟨fun X e=>by have:=(bR.o.lt X (by rw[Aj];exact e)).1;have:=aN.o.size;omega,fun X e=>by have:=(bQ.o.lt X (by rw[Aj];exact e)).1;have:=aN.o.size;omega⟩,AT (cF.o.trans X6) (Nat.le_of_eq cO.o) _ _ _⟩
end
end
section
open Go.RowKit
theorem Jp(n:Nat)(f:Nat->Int):(il n f).length=n:=Aj n f
theorem TQ{N:Nat}{f g:Nat->Int}(h:∀j,j<N->f j=g j):il N f=il N g:=by
 apply List.ext_getElem?;intro j;by_cases hj:j<N
 .rw[AH hj,AH hj,h j hj]
 .rw[List.getElem?_eq_none (by rw[Jp];omega),List.getElem?_eq_none (by rw[Jp];omega)]
theorem S6{n:Nat}{f:Nat->Int}{x:Int}(h:x∈il n f):∃j,j<n/\f j=x:=by
 unfold il at h;obtain⟨j,hj,e⟩:=List.mem_map.1 h;exact⟨j,List.mem_range.1 hj,e⟩
def li(n:Nat)(f:Nat->Nat):List Int:=il n fun i=>(f i:Int)
theorem Em(n:Nat)(f:Nat->Nat):(li n f).length=n:=Jp _ _
theorem CY{n i:Nat}(h:i<n)(f:Nat->Nat):(li n f)[i]?=some (f i:Int):=AH h _
theorem Tr{n:Nat}{f g:Nat->Nat}(h:∀i,i<n->f i=g i):li n f=li n g:=TQ fun i hi=>by rw[h i hi]
theorem En{w:World}{v:Value}{n:Nat}{f:Nat->Nat}(h:Ak w v (li n f)):∃a cap,v= .slice a n cap/\n<=cap/\cap<=maxLen/\
  (0<n->∃b o,a=some ⟨b,o,none⟩/\∀j,j<n->w.cell? ⟨b,o+j,none⟩=some (.int .i64 (f j:Int))):=by
 obtain⟨a,cap,h1,h2,h3,h4⟩:=h.open;rw[Em]at h1 h2 h4;refine⟨a,cap,h1,h2,h3,fun hn=>?_⟩;obtain⟨b,o,h5,h6⟩:=h4 hn;exact⟨b,o,h5,fun j hj=>h6 j _ (CY hj f)⟩
theorem AG.li{w:World}{base:Nat}{e:TypeId}{g n:Nat}{f:Nat->Nat}(h:AG w base e g n (iv fun i=>(f i:Int))):Ak w (.slice (some ⟨g,0,none⟩) n n) (Go.Proofs.YtehieobniamagaaGreat.li n f):=h.isl
theorem zby{P:Prop}(h:P:=by
 go_wp2_with fail
 go_roundw
 case rel=>exact⟨k+1,by omega,by go_num,HO,HX⟩
 case measure=>simp[intOf];omega):P:=h
theorem zbM{P:Prop}(h:P:=by
 clear aA;go_wp2_with fail
 go_ret;exact⟨g,rfl,HO.o,hx.o⟩):P:=h
theorem Fm(w:World)(n:Nat)(f h:Nat->Nat)(u v:Value)(hu:Ak w u (li n f))(hv:Ak w v (li n h))(hn:n<=100)(hf:∀i,i<n->f i<n):
  Calls Tryz.prog 108 #[u,v] w fun r w'=>∃g,r= .returned (.slice (some ⟨g,0,none⟩) n n)/\AG w' w.heap.size 3 g n (iv fun i=>(An f h i:Int))/\Ex w w':=by
 obtain⟨ua,uc,rfl,_,u2,u3⟩:=En hu;obtain⟨va,vc,rfl,_,v2,v3⟩:=En hv;unfold maxLen at u2 v2;have U3:=Aa u3;have V3:=Aa v3;have HF:=Aa hf;clear hu hv u3 v3 hf;go_enter Tryz.func108,Tryz.ntmps108
 go_wp2_with (at_make;refine Ap _ rfl _ _ 22 rfl 3 (.int .i64 0) 8 Tryz.underlying22 Aw rfl _ n rfl rfl rfl ac ai ?_)
 intro w3 aA aC;obtain⟨g,aB⟩:=nA w.heap.size;have aH:=Aa (show AG w3 g 3 g n (iv fun i=>if i<0 then(An f h i:Int) else 0) from by rw[<-aB];exact aA.icongr fun i _=>rfl);have aF:=Aa aC;have aG:=Aa aB;rw[aB]at ⊢;clear aA aC aB;go_wp2_with fail
 go_loopw [13] (fun k' wr=>∃(k:Nat),k<=n/\k'= .int .i64 k/\Hia (AG wr g 3 g n (iv fun i=>if i<k then(An f h i:Int) else 0))/\Hia (Ex w wr)) (fun k' _=>n-(intOf k').toNat)
 case atStart=>exact⟨0,ac,rfl,aH,aF⟩
 case round=>
  clear aH aF;obtain⟨k,hk,rfl,aA,hx⟩:=hrel;by_cases hkn:k<n
  .obtain⟨ub,uo,rfl,aE⟩:=U3.o ac;obtain⟨vb,vo,rfl,aD⟩:=V3.o ac;have aI:=HF.o k hkn;have c1:=hx.o.cell (aE k hkn);have c2:=hx.o.cell (aD (f k) aI);have c3:=aA.o.cell hkn;have c4:=aA.o.frz k;have i1:(0:Int)<=(k:Int):=by omega
   have i2:(k:Int)<(n:Int):=ac;have i3:(0:Int)<=(f k:Int):=ac;have i4:(f k:Int)<(n:Int):=ac;have HO:=Aa (show AG (wr.setCell ⟨g,k,none⟩ (.int .i64 (h (f k):Int))) g 3 g n (iv fun i=>if i<k+1 then(An f h i:Int) else 0) from by
    refine(aA.o.set k _).congr fun i hi=>?_;by_cases e:i=k
    .subst e;rw[Ab];show _=Value.int .i64 (if i<i+1 then(An f h i:Int) else 0);rw[if_pos ac];rfl
    .rw[Ae _ _ e];show Value.int .i64 (if i<k then(An f h i:Int) else 0)=Value.int .i64 (if i<k+1 then(An f h i:Int) else 0)
     by_cases h:i<k
     .exact zaM
     .rw[if_neg h,if_neg ac])
   have HX:=Aa (aA.o.exSet (a:=w) (by have:=aG.o;omega) hx.o k (.int .i64 (h (f k):Int)));clear aE aD aA hx;exact zby
  .obtain rfl:k=n:=by omega
   have HO:=Aa (show AG wr w.heap.size 3 g k (iv fun i=>(An f h i:Int)) from by
    rw[aG.o];exact aA.o.icongr fun i hi=>if_pos hi)
   exact zbM
theorem Ik(w:World)(n:Nat)(f:Nat->Nat)(u:Value)(hu:Ak w u (li n f))(hn:n<=100)(hf:Bj n f):
  Calls Tryz.prog 109 #[u] w fun r w'=>∃g,r= .returned (.slice (some ⟨g,0,none⟩) n n)/\AG w' w.heap.size 3 g n (iv fun i=>(A5 n f i:Int))/\Ex w w':=by
 obtain⟨ua,uc,rfl,_,u2,u3⟩:=En hu;unfold maxLen at u2;have U3:=Aa u3;have HF:=Aa hf;clear hu u3 hf;go_enter Tryz.func109,Tryz.ntmps109
 go_wp2_with (at_make;refine Ap _ rfl _ _ 22 rfl 3 (.int .i64 0) 8 Tryz.underlying22 Aw rfl _ n rfl rfl rfl ac ai ?_)
 intro w3 aA aC;obtain⟨g,aB⟩:=nA w.heap.size;have aG:=Aa (show AG w3 g 3 g n (iv fun i=>if A5 n f i<0 then(A5 n f i:Int) else 0) from by rw[<-aB];exact aA.icongr fun i _=>rfl);have aE:=Aa aC;have aF:=Aa aB;rw[aB]at ⊢;clear aA aC aB;go_wp2_with fail
 go_loopw [11] (fun k' wr=>∃(k:Nat),k<=n/\k'= .int .i64 k/\Hia (AG wr g 3 g n (iv fun i=>if A5 n f i<k then(A5 n f i:Int) else 0))/\Hia (Ex w wr)) (fun k' _=>n-(intOf k').toNat)
 case atStart=>exact⟨0,ac,rfl,aG,aE⟩
 case round=>
  clear aG aE;obtain⟨k,hk,rfl,aA,hx⟩:=hrel;by_cases hkn:k<n
  .obtain⟨ub,uo,rfl,aD⟩:=U3.o ac;have aH:=HF.o.lt k hkn;have c1:=hx.o.cell (aD k hkn);have c3:=aA.o.cell aH;have c4:=aA.o.frz (f k);have i1:(0:Int)<=(k:Int):=by omega
   have i2:(k:Int)<(n:Int):=ac;have i3:(0:Int)<=(f k:Int):=ac;have i4:(f k:Int)<(n:Int):=ac;have HO:=Aa (show AG (wr.setCell ⟨g,f k,none⟩ (.int .i64 (k:Int))) g 3 g n (iv fun i=>if A5 n f i<k+1 then(A5 n f i:Int) else 0) from by
    refine(aA.o.set (f k) _).congr fun i hi=>?_;by_cases e:i=f k
    .subst e;rw[Ab];show _=Value.int .i64 (if A5 n f (f k)<k+1 then(A5 n f (f k):Int) else 0);rw[HF.o.inv_l,if_pos ac]
    .rw[Ae _ _ e];show Value.int .i64 (if A5 n f i<k then(A5 n f i:Int) else 0)=Value.int .i64 (if A5 n f i<k+1 then(A5 n f i:Int) else 0)
     have h1:A5 n f i≠k:=fun h=>e (by rw[<-h,HF.o.inv_r]);by_cases h:A5 n f i<k
     .exact zaM
     .rw[if_neg h,if_neg ac])
   have HX:=Aa (aA.o.exSet (a:=w) (by have:=aF.o;omega) hx.o (f k) (.int .i64 (k:Int)));clear aD aA hx;exact zby
  .obtain rfl:k=n:=by omega
   have HO:=Aa (show AG wr w.heap.size 3 g k (iv fun i=>(A5 k f i:Int)) from by
    rw[aF.o];exact aA.o.icongr fun i hi=>if_pos (HF.o.inv.lt i hi))
   exact zbM
theorem Mo(w:World)(n:Nat)(hn:n<=100):
  Calls Tryz.prog 102 #[.int .i64 n] w fun r w'=>∃g,r= .returned (.slice (some ⟨g,0,none⟩) n n)/\AG w' w.heap.size 3 g n (iv fun i=>(ED i:Int))/\Ex w w':=by
 go_enter Tryz.func102,Tryz.ntmps102
 go_wp2_with (at_make;refine Ap _ rfl _ _ 22 rfl 3 (.int .i64 0) 8 Tryz.underlying22 Aw rfl _ n rfl rfl rfl ac ai ?_)
 intro w3 aA aC;obtain⟨g,aB⟩:=nA w.heap.size;have aF:=Aa (show AG w3 g 3 g n (iv fun i=>if i<0 then(i:Int) else 0) from by rw[<-aB];exact aA.icongr fun i _=>rfl);have aD:=Aa aC;have aE:=Aa aB;rw[aB]at ⊢;clear aA aC aB;go_wp2_with fail
 go_loopw [9] (fun k' wr=>∃(k:Nat),k<=n/\k'= .int .i64 k/\Hia (AG wr g 3 g n (iv fun i=>if i<k then(i:Int) else 0))/\Hia (Ex w wr)) (fun k' _=>n-(intOf k').toNat)
 case atStart=>exact⟨0,ac,rfl,aF,aD⟩
 case round=>
  clear aF aD;obtain⟨k,hk,rfl,aA,hx⟩:=hrel;by_cases hkn:k<n
  .have c3:=aA.o.cell hkn;have c4:=aA.o.frz k;have i1:(0:Int)<=(k:Int):=by omega
   have i2:(k:Int)<(n:Int):=ac;have HO:=Aa (show AG (wr.setCell ⟨g,k,none⟩ (.int .i64 (k:Int))) g 3 g n (iv fun i=>if i<k+1 then(i:Int) else 0) from by
    refine(aA.o.set k _).congr fun i hi=>?_;by_cases e:i=k
    .subst e;rw[Ab];show _=Value.int .i64 (if i<i+1 then(i:Int) else 0);rw[if_pos ac]
    .rw[Ae _ _ e];show Value.int .i64 (if i<k then(i:Int) else 0)=Value.int .i64 (if i<k+1 then(i:Int) else 0)
     by_cases h:i<k
     .exact zaM
     .rw[if_neg h,if_neg ac])
   have HX:=Aa (aA.o.exSet (a:=w) (by have:=aE.o;omega) hx.o k (.int .i64 (k:Int)));clear aA hx;exact zby
  .obtain rfl:k=n:=by omega
   have HO:=Aa (show AG wr w.heap.size 3 g k (iv fun i=>(ED i:Int)) from by
    rw[aE.o];exact aA.o.icongr fun i hi=>if_pos hi)
   exact zbM
end
section
open Go.RowKit
theorem NP:(Tryz.prog.info? 129).map (fun i=>(i.zero,i.size,i.bytes))=some (some (.agg #[.int .i64 0,.int .i64 0,.int .i64 0,.slice none 0 0,.slice none 0 0]),5,72):=ah
structure B9 where
 i:Nat
 j:Nat
 a:Nat
def OC(k:Nat):List Int:=(List.range k).map fun (x:Nat)=>(x:Int)
theorem TR(k:Nat):OC (k+1)=OC k ++ [(k:Int)]:=by unfold OC;rw[List.range_succ,List.map_append];rfl
theorem FT(k:Nat):(OC k).length=k:=by unfold OC;simp
def OA(k:Nat):List Int:=List.replicate k 1
theorem Tc(k:Nat):OA (k+1)=OA k ++ [(1:Int)]:=by unfold OA;rw[List.replicate_succ']
theorem FM(k:Nat):(OA k).length=k:=by unfold OA;simp
def B9.tl(g:B9):List Int:=OC g.i ++ [(g.j:Int)]
def B9.sl(g:B9):List Int:=OA g.i ++ [(g.a:Int)]
def EF:List B9->List (Value × Value)->List Value
 | g :: gs,c :: cs=> .int .i64 g.i :: .int .i64 g.j :: .int .i64 g.a :: c.1 :: c.2 :: EF gs cs
 | _,_=> []
theorem NQ:∀(L:List B9) (os:List (Value × Value)) (i:Nat) (l:B9) (o:Value × Value),L[i]?=some l->os[i]?=some o->(EF L os)[5*i]?=some (.int .i64 l.i)/\(EF L os)[5*i+1]?=some (.int .i64 l.j)/\(EF L os)[5*i+2]?=some (.int .i64 l.a)/\(EF L os)[5*i+3]?=some o.1/\(EF L os)[5*i+4]?=some o.2
 | l' :: L,o' :: os,0,l,o,h,k=>by
  simp at h k;subst h k;exact⟨rfl,rfl,rfl,rfl,rfl⟩
 | l' :: L,o' :: os,i+1,l,o,h,k=>by
  have:=NQ L os i l o ay (by simpa using k);rw[show 5*(i+1)=5*i+5 by omega,show 5*i+5+1=5*i+1+5 by omega,show 5*i+5+2=5*i+2+5 by omega,show 5*i+5+3=5*i+3+5 by omega,show 5*i+5+4=5*i+4+5 by omega];simpa[EF]using this
 | [],os,i,l,o,h,k=>by simp at h
 | l' :: L, [],i,l,o,h,k=>by simp at k
theorem JJ:∀(L:List B9) (os:List (Value × Value)) (l:B9) (o:Value × Value),os.length=L.length->EF (L ++ [l]) (os ++ [o])=EF L os ++ [.int .i64 l.i,.int .i64 l.j,.int .i64 l.a,o.1,o.2]
 | [], [],l,o,_=>rfl
 | l' :: L,o' :: os,l,o,h=>by
  have:=JJ L os l o ay;simp only[List.cons_append,EF,this]
 | [],o' :: os,l,o,h=>by simp at h
 | l' :: L, [],l,o,h=>by simp at h
def US(b0:Nat)(w:World)(v:Value)(gs:List B9):Prop:=∃cs:List (Value × Value),cs.length=gs.length/\Sl w v gs.length 5 (EF gs cs)/\∀(i:Nat) (g:B9) (c:Value × Value),gs[i]?=some g->cs[i]?=some c->(Ak w c.1 g.tl/\Ak w c.2 g.sl)/\(∀X,c.1.ownBlock=some X->b0<=X)/\∀X,c.2.ownBlock=some X->b0<=X
theorem US.mono{b0 b1:Nat}{w:World}{v:Value}{L:List B9}(h:US b0 w v L)(hb:b1<=b0):US b1 w v L:=by
 obtain⟨os,h1,h2,h3⟩:=h;exact⟨os,h1,h2,fun i l o a b=>⟨(h3 i l o a b).1,fun X e=>Nat.le_trans hb ((h3 i l o a b).2.1 X e),fun X e=>Nat.le_trans hb ((h3 i l o a b).2.2 X e)⟩⟩
theorem US.open{b0:Nat}{w:World}{v:Value}{L:List B9}(h:US b0 w v L):∃a cap,v= .slice a L.length cap/\L.length<=cap/\cap<=maxLen/\
  (0<L.length->∃b o,a=some ⟨b,o,none⟩/\∀(i:Nat) (l:B9),L[i]?=some l->∃u r,w.cell? ⟨b,o+5*i,none⟩=some (.int .i64 l.i)/\w.cell? ⟨b,o+(5*i+1),none⟩=some (.int .i64 l.j)/\w.cell? ⟨b,o+(5*i+2),none⟩=some (.int .i64 l.a)/\w.cell? ⟨b,o+(5*i+3),none⟩=some u/\w.cell? ⟨b,o+(5*i+4),none⟩=some r/\Ak w u l.tl/\Ak w r l.sl/\(∀X,u.ownBlock=some X->b0<=X)/\∀X,r.ownBlock=some X->b0<=X):=by
 obtain⟨os,h1,⟨h2,a,cap,h3,h4,h5,h6⟩,h7⟩:=h;refine⟨a,cap,h3,h4,h5,fun hn=>?_⟩;obtain⟨b,o,h8,h9⟩:=h6 hn;refine⟨b,o,h8,fun i l hl=>?_⟩;have hi:=(List.getElem?_eq_some_iff.1 hl).1;have ho:os[i]?=some (os[i]'ac):=List.getElem?_eq_getElem _;obtain⟨g1,g2,g3,g4,g5⟩:=NQ L os i l _ hl ho;obtain⟨⟨k1,k2⟩,k3,k4⟩:=h7 i l _ hl ho;exact⟨_,_,h9 _ _ g1,h9 _ _ g2,h9 _ _ g3,h9 _ _ g4,h9 _ _ g5,k1,k2,k3,k4⟩
structure Lo(w1 wr:World)(B i j a:Nat)(pv sv:Value)(L0 L1:List Int):Prop where
 c0:wr.cell? ⟨B,0,none⟩=some (.int .i64 i)
 c1:wr.cell? ⟨B,1,none⟩=some (.int .i64 j)
 c2:wr.cell? ⟨B,2,none⟩=some (.int .i64 a)
 b0:wr.cell? ⟨B,3,none⟩=some pv
 b1:wr.cell? ⟨B,4,none⟩=some sv
 f0:wr.frozen? ⟨B,3,none⟩=false
 f1:wr.frozen? ⟨B,4,none⟩=false
 o0:wr.ownsRow w1.heap.size 3 1 pv L0.length (Am L0)
 o1:wr.ownsRow w1.heap.size 3 1 sv L1.length (Am L1)
 ap:AJ pv sv
 n0:∀X,pv.ownBlock=some X->X≠B
 n1:∀X,sv.ownBlock=some X->X≠B
 lb:w1.heap.size<=B
 ex:Ex w1 wr
section
variable {w1 wr w':World} {B i j a:Nat} {pv sv v':Value} {L0 L1:List Int} {x:Int}
theorem Lo.no0(h:Lo w1 wr B i j a pv sv L0 L1):some B≠pv.ownBlock:=fun e=>h.n0 B e.symm rfl
theorem Lo.no1(h:Lo w1 wr B i j a pv sv L0 L1):some B≠sv.ownBlock:=fun e=>h.n1 B e.symm rfl
theorem Lo.at0(h:Lo w1 wr B i j a pv sv L0 L1)(ha:A8 wr w' w1.heap.size 3 1 pv v' L0.length (Am L0) [.int .i64 x]):
  w'.cell? ⟨B,3,none⟩=some pv/\w'.frozen? ⟨B,3,none⟩=false:=⟨ha.cell h.b0 h.no0,ha.frz h.b0 h.f0 h.no0⟩
theorem Lo.at1(h:Lo w1 wr B i j a pv sv L0 L1)(ha:A8 wr w' w1.heap.size 3 1 sv v' L1.length (Am L1) [.int .i64 x]):
  w'.cell? ⟨B,4,none⟩=some sv/\w'.frozen? ⟨B,4,none⟩=false:=⟨ha.cell h.b1 h.no1,ha.frz h.b1 h.f1 h.no1⟩
theorem Lo.app0(h:Lo w1 wr B i j a pv sv L0 L1)(ha:A8 wr w' w1.heap.size 3 1 pv v' L0.length (Am L0) [.int .i64 x]):
  Lo w1 (w'.setCell ⟨B,3,none⟩ v') B i j a v' sv (L0 ++ [x]) L1:=by
 have hn:=E6.blk ha h.c0 h.n0;have hr:=ha.row h.o1 h.ap.symm;refine⟨?_,?_,?_,World.cell?_setCell_same _ _ _ (ha.cell h.b0 h.no0),?_,?_,?_,?_,?_,hr.2.symm,hn,h.n1,h.lb,(ha.ex h.ex (Nat.le_refl _)).setCell (p:=⟨B,3,none⟩) h.lb _⟩
 .rw[Ag ae];exact ha.cell h.c0 h.no0
 .rw[Ag ae];exact ha.cell h.c1 h.no0
 .rw[Ag ae];exact ha.cell h.c2 h.no0
 .rw[Ag ae];exact ha.cell h.b1 h.no0
 .rw[Au];exact ha.frz h.b0 h.f0 h.no0
 .rw[Au];exact ha.frz h.b1 h.f1 h.no0
 .have:=Ad (a:=⟨B,3,none⟩) ha.own (fun e=>hn B e rfl) v';rw[List.length_append,show Am (L0 ++ [x])=Am L0 ++ [.int .i64 x] from by unfold Am;simp];exact this
 .exact Ad (a:=⟨B,3,none⟩) hr.1 (fun e=>h.n1 B e rfl) v'
theorem Lo.app1(h:Lo w1 wr B i j a pv sv L0 L1)(ha:A8 wr w' w1.heap.size 3 1 sv v' L1.length (Am L1) [.int .i64 x]):
  Lo w1 (w'.setCell ⟨B,4,none⟩ v') B i j a pv v' L0 (L1 ++ [x]):=by
 have hn:=E6.blk ha h.c0 h.n1;have hr:=ha.row h.o0 h.ap;refine⟨?_,?_,?_,?_,World.cell?_setCell_same _ _ _ (ha.cell h.b1 h.no1),?_,?_,?_,?_,hr.2,h.n0,hn,h.lb,(ha.ex h.ex (Nat.le_refl _)).setCell (p:=⟨B,4,none⟩) h.lb _⟩
 .rw[Ag ae];exact ha.cell h.c0 h.no1
 .rw[Ag ae];exact ha.cell h.c1 h.no1
 .rw[Ag ae];exact ha.cell h.c2 h.no1
 .rw[Ag ae];exact ha.cell h.b0 h.no1
 .rw[Au];exact ha.frz h.b0 h.f0 h.no1
 .rw[Au];exact ha.frz h.b1 h.f1 h.no1
 .exact Ad (a:=⟨B,4,none⟩) hr.1 (fun e=>h.n0 B e rfl) v'
 .have:=Ad (a:=⟨B,4,none⟩) ha.own (fun e=>hn B e rfl) v';rw[List.length_append,show Am (L1 ++ [x])=Am L1 ++ [.int .i64 x] from by unfold Am;simp];exact this
end
theorem Lo.new(w1:World)(i j a:Nat):Lo w1 (w1.alloc (.cells #[.int .i64 i,.int .i64 j,.int .i64 a,.slice none 0 0,.slice none 0 0] 129)) w1.heap.size i j a (.slice none 0 0) (.slice none 0 0) [] []:=
 ⟨ag,ag,ag,ag,ag,ag,ag,World.ownsRow_nil _ _ _ _,World.ownsRow_nil _ _ _ _,AJ.nil _,by simp[Value.ownBlock],by simp[Value.ownBlock],Nat.le_refl _,(Ex.refl _).alloc _⟩
structure MZ(w1 wr:World)(v:Value)(gs:List B9)(cs:List (Value × Value)):Prop where
 ex:Ex w1 wr
 len:cs.length=gs.length
 own:wr.ownsRow w1.heap.size 129 5 v gs.length (EF gs cs)
 at_:∀(i:Nat) (g:B9) (c:Value × Value),gs[i]?=some g->cs[i]?=some c->(wr.ownsRow w1.heap.size 3 1 c.1 g.tl.length (Am g.tl)/\AJ c.1 v)/\(wr.ownsRow w1.heap.size 3 1 c.2 g.sl.length (Am g.sl)/\AJ c.2 v)
section
variable {w1 wr w' w0:World} {v v' pv sv:Value} {gs:List B9} {cs:List (Value × Value)} {B:Nat}
theorem MZ.nil(h:Ex w1 wr):MZ w1 wr (.slice none 0 0) [] []:=⟨h,rfl,World.ownsRow_nil _ _ _ _,fun i x c h=>by simp at h⟩
theorem MZ.later(h:MZ w1 wr v gs cs)(hx:Ex wr w'):MZ w1 w' v gs cs:=
 ⟨h.ex.trans hx,h.len,Ai h.own hx,fun i x c a b=>⟨⟨Ai (h.at_ i x c a b).1.1 hx,(h.at_ i x c a b).1.2⟩,⟨Ai (h.at_ i x c a b).2.1 hx,(h.at_ i x c a b).2.2⟩⟩⟩
theorem MZ.gsl(h:MZ w1 wr v gs cs):US w1.heap.size wr v gs:=⟨cs,h.len,Sl.own h.own,fun i x c a b=>⟨⟨Sl.own (h.at_ i x c a b).1.1,Sl.own (h.at_ i x c a b).2.1⟩,fun X e=>((h.at_ i x c a b).1.1.lt X e).1,fun X e=>((h.at_ i x c a b).2.1.lt X e).1⟩⟩
theorem zbO{P:Prop}(h:P:=by
 have:=(List.getElem?_eq_some_iff.1 a).1;simp at this;omega):P:=h
theorem MZ.app(h:MZ w1 wr v gs cs){g:B9}(hx:Lo w0 wr B g.i g.j g.a pv sv g.tl g.sl)(h0:∀X,v.ownBlock=some X->X<w0.heap.size)(hw:w1.heap.size<=w0.heap.size)
  (ha:A8 wr w' w1.heap.size 129 5 v v' gs.length (EF gs cs) [.int .i64 g.i,.int .i64 g.j,.int .i64 g.a,pv,sv]):MZ w1 w' v' (gs ++ [g]) (cs ++ [(pv,sv)]):=by
 refine⟨ha.ex h.ex (Nat.le_refl _),by simp[h.len],?_,fun i x c a b=>?_⟩
 .have:=ha.own;rw[JJ gs cs g (pv,sv) h.len,List.length_append];exact this
 .by_cases hi:i<gs.length
  .rw[List.getElem?_append_left hi]at a;rw[List.getElem?_append_left (by rw[h.len];exact hi)]at b;obtain⟨⟨p1,p2⟩,⟨p3,p4⟩⟩:=h.at_ i x c a b;exact⟨ha.row p1 p2,ha.row p3 p4⟩
  .have aA:i=gs.length:=by
    exact zbO
   subst aA;rw[List.getElem?_append_right (Nat.le_refl _)]at a;rw[List.getElem?_append_right (by rw[h.len];exact Nat.le_refl _),h.len]at b;simp at a b;subst a b;exact⟨ha.row (De hx.o0 hw) (Dw (fun X e=>(hx.o0.lt X e).1) h0),ha.row (De hx.o1 hw) (Dw (fun X e=>(hx.o1.lt X e).1) h0)⟩
end
def gA(i j c:Nat):List B9:=(List.range c).map fun a=>⟨i,j,a+1⟩
def gJ(q i k:Nat):List B9:=(List.range k).flatMap fun j=>gA i (i+j) (q-1)
def gI(n q k:Nat):List B9:=(List.range k).flatMap fun i=>gJ q i (n-i)
def DA(n q:Nat):List B9:=gI n q n
theorem Wd(i j c:Nat):gA i j (c+1)=gA i j c ++ [⟨i,j,c+1⟩]:=by unfold gA;rw[List.range_succ,List.map_append];rfl
theorem Qz(q i k:Nat):gJ q i (k+1)=gJ q i k++gA i (i+k) (q-1):=by unfold gJ;rw[List.range_succ,List.flatMap_append];simp
theorem QA(n q k:Nat):gI n q (k+1)=gI n q k++gJ q k (n-k):=by unfold gI;rw[List.range_succ,List.flatMap_append];simp
theorem TZ(i j c:Nat):(gA i j c).length=c:=by unfold gA;simp
theorem Ps(q i:Nat)(hq:q<=256):∀k,(gJ q i k).length<=k*256
 | 0=>by unfold gJ;simp
 | k+1=>by
  rw[Qz,List.length_append,TZ];have:=Ps q i hq k;omega
theorem Mq(n q:Nat)(hn:n<=64)(hq:q<=256):∀k,(gI n q k).length<=k*16384
 | 0=>by unfold gI;simp
 | k+1=>by
  rw[QA,List.length_append];have:=Mq n q hn hq k;have:=Ps q k hq (n-k);omega
end
end Go.Proofs.YtehieobniamagaaGreat
