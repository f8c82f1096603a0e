/- Walk of automorphism.from (printed by gen_frm.py). -/
import Derived.Test.YtehieobniamagaaGreatZi18
namespace Go.Proofs.YtehieobniamagaaGreat
open Nat renaming le_trans→μ,pow_pos→ϕ
open List renaming setIfInBounds_toArray→γa,set_cons_zero→δb,set_cons_succ→δc
open Go.World renaming cell?_setCell_other→ό,cell?_setCell_same→φ,block_lt_of_cell?→η
open Go.RowKit
set_option linter.all false
set_option maxRecDepth 100000
set_option maxHeartbeats 8000000
def FG(Q:Nat)(P:List Int)(i:Nat):Int:=P.getD (i*Q) 0/(Q:Int)
def Ge(Q:Nat)(P:List Int)(i:Nat):Int:=P.getD (i*Q) 0%(Q:Int)+1
def Vp(p m:Nat)(ml:List Int)(N:Nat)(P:List Int):Bool:=decide (J8 p m ml (il N (FG (p^m-1) P)) (il N (Ge (p^m-1) P))=P)
section
variable {b p m x0:Nat} {ml:List Int}
theorem zb3{P:Prop}(h:P:=by
 have k9:IntKind.i64.wrap ((Q:Int))=(Q:Int):=IntWalk.i64_in _ (by omega);exact zdp):P:=h
theorem er{P:Prop}(h:P:=by rw[<-hB];simp):P:=h
theorem Qu(w:World)(hg:Bh w b p m ml x0)(N:Nat)(hN1:1<=N)(hN:N<=64)(P:List Int)(pv:Value)(hp:Ak w pv P)(hd:N*(p^m-1)<=64)(aA:P.length=N*(p^m-1))(aT:∀x∈P,0<=x/\x<(P.length:Int)):
  Calls Tryz.prog 58 #[.pointer (some ⟨b,0,none⟩),.int .i64 N,pv] w fun r w'=>∃u v,r= .returned (.tuple #[.agg #[u,v,.int .i64 0],.bool (Vp p m ml N P)])/\Ak w' u (il N (FG (p^m-1) P))/\Ak w' v (il N (Ge (p^m-1) P))/\((∀X,u.ownBlock=some X->w.heap.size<=X)/\∀X,v.ownBlock=some X->w.heap.size<=X)/\Ex w w':=by
 have HG:=Aa hg;have bX:2<=p^m:=Nat.le_trans hg.sh.p2 (Nat.le_self_pow (by have:=hg.sh.m1;omega) p);have bW:=hg.sh.q;have bO:=Aa (fun w1 (h:Ex w w1)=>Cv w1 (hg.ex h));have bB:=Aa (fun (w1:World) (h:Ex w w1) (pl sl:List Int) (u v:Value) (hp:Ak w1 u pl) (hs:Ak w1 v sl) (h1:pl.length=N) (h2:sl.length=N) (h3:BW pl N=true)=>RS w1 (hg.ex h) N hN pl sl u v hp hs h1 h2 h3 hd 0);obtain⟨BE,aX⟩:∃b,Vp p m ml N P=b:=⟨_,rfl⟩;have bE:=Aa (show decide (il (N*(p^m-1)) (Pi p m ml (il N (FG (p^m-1) P)) (il N (Ge (p^m-1) P)))=P)=BE from by
  rw[<-aX];unfold Vp J8;rw[Ao])
 rw[aX];obtain⟨pa,pc,rfl,z1,z2,p3⟩:=hp.open;unfold maxLen at z2;have P3:=Aa p3;have HP:=Aa hp;obtain⟨q,hq⟩:=nA (p^m);obtain⟨Q,hQ⟩:=nA (q-1);rw[hq]at bO bB bE bX bW hd aA ⊢;rw[hQ]at bB bE hd aA ⊢;have kQ:(q:Int)-1=(Q:Int):=ac;have bZ:1<=Q:=ac;obtain⟨PN,aV⟩:∃n,P.length=n:=⟨_,rfl⟩;rw[aV]at aA aT p3 P3 z1 HP ⊢;have bN:=Aa (show ∀i,i<N->∃X:Nat,P.getD (i*Q) 0=(X:Int)/\i*Q<PN/\X<PN from fun i hi=>by
  have h1:i*Q<PN:=by rw[aA];exact Nat.mul_lt_mul_of_pos_right hi bZ
  obtain⟨h2,h3⟩:=aT (P.getD (i*Q) 0) (List.mem_of_getElem? (AZ ac));exact⟨(P.getD (i*Q) 0).toNat,ac,h1,ac⟩)
 obtain⟨cM,HPN,HLN,HD,cE⟩:=On (fun i (hi:i<PN)=>AZ (l:=P) (i:=i) ac) aV aA (show PN<=64 from ac) (show ∀X:Nat,X<PN->X/Q<N from fun X hX=>Nat.div_lt_of_lt_mul (by rw[Nat.mul_comm,<-aA];exact hX));clear hg hp aT aA hd aV p3 aX hq hQ;have kq0:¬(Q:Int)=0:=by omega
 have kq1:¬Q=0:=ac;have kqb:Q<=255:=ac;go_enter Tryz.func58,Tryz.ntmps58
 go_upto_region 1 with fail
 obtain⟨B0,hB⟩:∃B,w.heap.size=B:=⟨_,rfl⟩;have r0:(w.alloc (.cells #[.slice none 0 0,.slice none 0 0,.int .i64 0] 26)).cell? ⟨B0,0,none⟩=some (.slice none 0 0):=er;have r1:(w.alloc (.cells #[.slice none 0 0,.slice none 0 0,.int .i64 0] 26)).cell? ⟨B0,1,none⟩=some (.slice none 0 0):=er;have r2:(w.alloc (.cells #[.slice none 0 0,.slice none 0 0,.int .i64 0] 26)).cell? ⟨B0,2,none⟩=some (.int .i64 0):=er;have s0:(w.alloc (.cells #[.slice none 0 0,.slice none 0 0,.int .i64 0] 26)).frozen? ⟨B0,0,none⟩=false:=er;have s1:(w.alloc (.cells #[.slice none 0 0,.slice none 0 0,.int .i64 0] 26)).frozen? ⟨B0,1,none⟩=false:=er;have s2:(w.alloc (.cells #[.slice none 0 0,.slice none 0 0,.int .i64 0] 26)).frozen? ⟨B0,2,none⟩=false:=er;have aN:=Aa (show Ex w (w.alloc (.cells #[.slice none 0 0,.slice none 0 0,.int .i64 0] 26)) from(Ex.refl w).alloc _);have bL:=Aa (show(w.alloc (.cells #[.slice none 0 0,.slice none 0 0,.int .i64 0] 26)).heap.size=B0+1 from by simp[hB])
 try simp only[hB]
 have cO:=Aa hB;clear hB;generalize w.alloc (.cells #[.slice none 0 0,.slice none 0 0,.int .i64 0] 26)=w3 at *;have bM:=Aa (show ∀w',Ex w3 w'->w'.cell? ⟨B0,0,none⟩=some (.slice none 0 0)/\w'.cell? ⟨B0,1,none⟩=some (.slice none 0 0)/\w'.cell? ⟨B0,2,none⟩=some (.int .i64 0)/\w'.frozen? ⟨B0,0,none⟩=false/\w'.frozen? ⟨B0,1,none⟩=false/\w'.frozen? ⟨B0,2,none⟩=false from
  fun w' h=>⟨h.cell r0,h.cell r1,h.cell r2,h.frz r0 s0,h.frz r1 s1,h.frz r2 s2⟩)
 go_upto_region 2 with (go_at_call 54;refine(bO.o w3 aN.o).mono ?_;rintro e w2⟨rfl,rfl⟩)
 obtain⟨B1,aY⟩:∃B,w3.heap.size=B:=⟨_,rfl⟩;have bD:=Aa (Hm.new w3 0);rw[aY]at bD;have bT:=Aa aY;clear r0 r1 r2 s0 s1 s2 aY;go_upto_region 3 with fail
 try simp only[bT.o]
 generalize w3.alloc (.cells #[.slice none 0 0,.slice none 0 0,.int .i64 0] 26)=w4 at *;go_wp2_with fail
 go_loopw [15] (fun i' wr=>∃(i:Nat) (pv sv:Value),i<=N/\i'= .int .i64 i/\Hia (Hm w3 wr B1 0 pv sv (il i (FG Q P)) (il i (Ge Q P)))) (fun i' _=>N-(intOf i').toNat)
 case atStart=>exact⟨0,_,_,ac,rfl,bD⟩
 case round=>
  clear bD;obtain⟨i,pv,sv,hi,rfl,HC⟩:=hrel;by_cases aB:i<N
  .obtain⟨X,hX,bK,bY⟩:=bN.o i aB;obtain⟨A,hA⟩:=nA (X/Q);obtain⟨R,hR⟩:=nA (X%Q);have cL:=Aa (show il (i+1) (FG Q P)=il i (FG Q P) ++ [(A:Int)] from by rw[TJ];unfold FG;rw[hX,<-hA];norm_cast);have cK:=Aa (show il (i+1) (Ge Q P)=il i (Ge Q P) ++ [(R:Int)+1] from by rw[TJ];unfold Ge;rw[hX,<-hR];norm_cast);have kd:(X:Int).tdiv (Q:Int)=(A:Int):=by rw[Int.tdiv_eq_ediv_of_nonneg ac,<-hA];norm_cast
   have kr:(X:Int).tmod (Q:Int)=(R:Int):=by rw[Int.tmod_eq_emod_of_nonneg ac,<-hR];norm_cast
   have hAb:A<=64:=by rw[<-hA];exact Nat.le_trans (Nat.div_le_self _ _) (by have:=HD.o;omega)
   have hRb:R<=64:=by rw[<-hR];exact Nat.le_trans (Nat.mod_le _ _) (by have:=HD.o;omega)
   obtain⟨pb,po,rfl,bI⟩:=P3.o ac;have cx:=(aN.o.trans HC.o.ex).cell (bI _ _ (cM.o _ bK));rw[hX]at cx;obtain⟨IQ,aW⟩:∃z,i*Q=z:=⟨_,rfl⟩;rw[aW]at cx bK;have kI:(i:Int)*(Q:Int)=(IQ:Int):=by rw[<-aW];norm_cast
   have i1:(0:Int)<=(IQ:Int):=ac;have i2:(IQ:Int)<(PN:Int):=ac;have aQ:=Aa (show(il i (FG Q P)).length<=64/\(il i (Ge Q P)).length<=64 from by rw[Ao,Ao];omega);have aE:=Aa hN;obtain⟨va,vc,rfl⟩:=Ad HC.o.o0;obtain⟨ua,uc,rfl⟩:=Ad HC.o.o1;have HCW:=Aa HC.o.ex;have D0:=Aa HC.o.b0;have bR:=Aa aB;clear hX hA hR bI aW aB bY;go_wp2_with fail
   go_upto_region 7 with fail
   clear cx kI i1 i2
   go_cut [25] from 25 to 33 (fun _ wx=>∃aH aG,Hia (Hm w3 wx B1 0 (.slice aH (il (i+1) (FG Q P)).length aG) (.slice ua (il i (Ge Q P)).length uc) (il (i+1) (FG Q P)) (il i (Ge Q P))))
   case first=>
    refine FH (fun k=>([.pointer (some ⟨B1,0,none⟩),.slice va (il i (FG Q P)).length vc,.int .i64 (X:Int),.int .i64 (q:Int),.int .i64 (Q:Int),.int .i64 (A:Int),undef,undef,.pointer (some ⟨B1,0,none⟩)]:List Value).getD k undef) 6 7 8 9 (.int .i64 (A:Int)) 3 (fun v w=>∃w1,Hm w3 w1 B1 0 (.slice va (il i (FG Q P)).length vc) (.slice ua (il i (Ge Q P)).length uc) (il i (FG Q P)) (il i (Ge Q P))/\S0 w1 w w3.heap.size 3 1 (.slice va (il i (FG Q P)).length vc) v (il i (FG Q P)).length (Aj (il i (FG Q P))) [.int .i64 (A:Int)]) (fun v w=>Hm w3 w B1 0 v (.slice ua (il i (Ge Q P)).length uc) ((il i (FG Q P)) ++ [(A:Int)]) (il i (Ge Q P))) ah ah ah ?_ ?_ ?_ ?_ (fun B v k=>([.pointer (some ⟨B1,0,none⟩),.slice va (il i (FG Q P)).length vc,.int .i64 (X:Int),.int .i64 (q:Int),.int .i64 (Q:Int),.int .i64 (A:Int),.slice (some ⟨B,0,none⟩) 1 1,v,.pointer (some ⟨B1,0,none⟩)]:List Value).getD k undef) (fun _ _=>rfl) ?_
    .simp only[AH];refine⟨?_,?_,?_,?_,?_,?_,?_,?_,?_,?_,trivial⟩
     all_goals first|exact IN.sk ae|refine IN.go ae fun a w T hx K hK=>?_|refine IN.gf ae fun a w T K hK=>?_
     .have e9:=T 9 _ rfl;exact zdp
     .have e25:=T 25 _ rfl;have q1:=hx.cell D0.o;exact zdp
     .have cA:=T 11 _ rfl;exact zdp
     .exact za5
     .have e28:=T 28 _ rfl;exact zb3
     .have e27:=T 27 _ rfl;have e29:=T 29 _ rfl;have k9:IntKind.i64.wrap ((A:Int))=(A:Int):=IntWalk.i64_in _ ac;exact zdp
     .have e9:=T 9 _ rfl;clear T;go_simp;exact hK
    .intro o a w1 K ho hx aB hK;injection (show some _=some o from ho) with ho;subst ho;have e30:=aB 5 30 _ ah ae ae ae rfl rfl;clear aB;go_simp;exact hK
    .intro o ob a w1 B8 K ho aK hx aS aU aB hA;injection (show some _=some o from ho) with ho;subst ho;injection (show some _=some ob from aK) with aK;subst aK;have e1:=A9 (aB 1 26 _ ah ae ae ae rfl rfl);have e2:=A9 (aS 31 rfl);refine BH _ _ 22 rfl w3.heap.size 3 (.int .i64 0) 1 8 Tryz.underlying22 Az rfl ae (.slice va (il i (FG Q P)).length vc) (il i (FG Q P)).length (Aj (il i (FG Q P))) e1 ((HC.o.later hx).o0) _ 1 [.int .i64 (A:Int)] e2 (S9 aU) aj (by have:=aQ.o.1;have:=aE.o;unfold maxLen;omega) (by have:=aQ.o.1;have:=aE.o;omega) ((HC.o.later hx).ex.size) ?_;intro v' w' aI hg ha;exact hA v' w' (⟨w1,HC.o.later hx,⟨aI,hg,ha,(HC.o.later hx).o0⟩⟩)
    .intro o oa of a w1 v K ho aL aJ hA h1 h2 hK;injection (show some _=some o from ho) with ho;subst ho;injection (show some _=some oa from aL) with aL;subst aL;injection (show some _=some of from aJ) with aJ;subst aJ;have e1:=h1 32 rfl;have e2:=h2 33 rfl;obtain⟨w2,aM,aD⟩:=hA;obtain⟨g1,g2⟩:=aM.at0g aD;have aC:=aM.app0g aD;obtain⟨aH,aG,rfl⟩:=Ad aD.own;clear aM aD h1 h2;have bC:=Aa aC;clear aC;go_simp;exact hK _ bC.o
    .intro B8 v w1 hF;rw[<-cL.o]at hF;obtain⟨aH,aG,bH⟩:=Ad hF.o0;rw[bH]at hF;have HF:=Aa hF;clear hF bH;simp only[Cg,Act.put,List.setIfInBounds_toArray,List.set_cons_zero,List.set_cons_succ];go_wp2_with fail
     go_meet
     exact⟨aH,aG,HF⟩
   case rest=>
    obtain⟨aH,aG,bJ⟩:=hcut;have aP:=Aa bJ.o;clear bJ;have HCX:=Aa aP.o.ex;have D1:=Aa aP.o.b1;go_upto_region 8 with fail
    refine FH (fun k=>([.pointer (some ⟨B1,1,none⟩),.slice ua (il i (Ge Q P)).length uc,.int .i64 (X:Int),.int .i64 (q:Int),.int .i64 (Q:Int),.int .i64 (R:Int),.int .i64 ((R:Int)+1),undef,undef,.pointer (some ⟨B1,1,none⟩)]:List Value).getD k undef) 7 8 9 10 (.int .i64 ((R:Int)+1)) 3 (fun v w=>∃w1,Hm w3 w1 B1 0 (.slice aH (il (i+1) (FG Q P)).length aG) (.slice ua (il i (Ge Q P)).length uc) (il (i+1) (FG Q P)) (il i (Ge Q P))/\S0 w1 w w3.heap.size 3 1 (.slice ua (il i (Ge Q P)).length uc) v (il i (Ge Q P)).length (Aj (il i (Ge Q P))) [.int .i64 ((R:Int)+1)]) (fun v w=>Hm w3 w B1 0 (.slice aH (il (i+1) (FG Q P)).length aG) v (il (i+1) (FG Q P)) ((il i (Ge Q P)) ++ [(R:Int)+1])) ah ah ah ?_ ?_ ?_ ?_ (fun B v k=>([.pointer (some ⟨B1,1,none⟩),.slice ua (il i (Ge Q P)).length uc,.int .i64 (X:Int),.int .i64 (q:Int),.int .i64 (Q:Int),.int .i64 (R:Int),.int .i64 ((R:Int)+1),.slice (some ⟨B,0,none⟩) 1 1,v,.pointer (some ⟨B1,1,none⟩)]:List Value).getD k undef) (fun _ _=>rfl) ?_
    .simp only[AH];refine⟨?_,?_,?_,?_,?_,?_,?_,?_,?_,?_,?_,trivial⟩
     all_goals first|exact IN.sk ae|refine IN.go ae fun a w T hx K hK=>?_|refine IN.gf ae fun a w T K hK=>?_
     .have e9:=T 9 _ rfl;exact zdp
     .have e34:=T 34 _ rfl;have q1:=hx.cell D1.o;exact zdp
     .have cA:=T 11 _ rfl;exact zdp
     .exact za5
     .have e37:=T 37 _ rfl;exact zb3
     .have e36:=T 36 _ rfl;have e38:=T 38 _ rfl;have k9:IntKind.i64.wrap ((R:Int))=(R:Int):=IntWalk.i64_in _ ac;exact zdp
     .have e39:=T 39 _ rfl;have k9:IntKind.i64.wrap ((R:Int)+1)=(R:Int)+1:=IntWalk.i64_in _ ac;exact zdp
     .have e9:=T 9 _ rfl;clear T;go_simp;exact hK
    .intro o a w1 K ho hx aB hK;injection (show some _=some o from ho) with ho;subst ho;have e40:=aB 6 40 _ ah ae ae ae rfl rfl;clear aB;go_simp;exact hK
    .intro o ob a w1 B8 K ho aK hx aS aU aB hA;injection (show some _=some o from ho) with ho;subst ho;injection (show some _=some ob from aK) with aK;subst aK;have e1:=A9 (aB 1 35 _ ah ae ae ae rfl rfl);have e2:=A9 (aS 41 rfl);refine BH _ _ 22 rfl w3.heap.size 3 (.int .i64 0) 1 8 Tryz.underlying22 Az rfl ae (.slice ua (il i (Ge Q P)).length uc) (il i (Ge Q P)).length (Aj (il i (Ge Q P))) e1 ((aP.o.later hx).o1) _ 1 [.int .i64 ((R:Int)+1)] e2 (S9 aU) aj (by have:=aQ.o.2;have:=aE.o;unfold maxLen;omega) (by have:=aQ.o.2;have:=aE.o;omega) ((aP.o.later hx).ex.size) ?_;intro v' w' aI hg ha;exact hA v' w' (⟨w1,aP.o.later hx,⟨aI,hg,ha,(aP.o.later hx).o1⟩⟩)
    .intro o oa of a w1 v K ho aL aJ hA h1 h2 hK;injection (show some _=some o from ho) with ho;subst ho;injection (show some _=some oa from aL) with aL;subst aL;injection (show some _=some of from aJ) with aJ;subst aJ;have e1:=h1 42 rfl;have e2:=h2 43 rfl;obtain⟨w2,aM,aD⟩:=hA;obtain⟨g1,g2⟩:=aM.at1g aD;have aC:=aM.app1g aD;obtain⟨va7,vc7,rfl⟩:=Ad aD.own;clear aM aD h1 h2;have bC:=Aa aC;clear aC;go_simp;exact hK _ bC.o
    .intro B8 v w1 hF;rw[<-cK.o]at hF;have HF:=Aa hF;clear hF;simp only[Cg,Act.put,List.setIfInBounds_toArray,List.set_cons_zero,List.set_cons_succ];go_wp2_with fail
     go_roundw
     case rel=>exact⟨i+1,_,_,by have:=bR.o;omega,by go_num,HF⟩
     case measure=>have:=bR.o;simp[intOf];omega
  .obtain rfl:i=N:=by omega
   obtain⟨va,vc,rfl⟩:=Ad HC.o.o0;obtain⟨ua,uc,rfl⟩:=Ad HC.o.o1;have HC:=Aa HC.o;have m0:=HC.o.b0;have m1:=HC.o.b1;have m2:=HC.o.b2;have bA:=Aa (show Ak wr (.slice va (il i (FG Q P)).length vc) (il i (FG Q P)) from Sl.own HC.o.o0);have aZ:=Aa (show Ak wr (.slice ua (il i (Ge Q P)).length uc) (il i (Ge Q P)) from Sl.own HC.o.o1);rw[Ao]at bA m0;rw[Ao]at aZ m1;have cI:=Aa (show BW (il i (FG Q P)) i=true from by
    unfold BW;rw[List.all_eq_true];intro x hx;unfold il at hx;obtain⟨j,hj,rfl⟩:=List.mem_map.1 hx;rw[List.mem_range]at hj;obtain⟨X,h1,h2,h3⟩:=bN.o j hj;have h4:=cE.o X h3;have h5:FG Q P j=((X/Q:Nat):Int):=by unfold FG;rw[h1];norm_cast
    rw[h5];generalize X/Q=Z at *;exact decide_eq_true ⟨ac,ac⟩)
   have cJ:=Aa (fun w' (h:Ex wr w')=>bB.o w' (aN.o.trans (HC.o.ex.trans h)) _ _ _ _ (bA.o.ex h) (aZ.o.ex h) (Ao _ _) (Ao _ _) cI.o);have cN:=Aa (fun w' (h:Ex wr w') (v:Value) (hv:Ak w' v (il (i*Q) (Pi p m ml (il i (FG Q P)) (il i (Ge Q P)))))=>(by
    have:=Js w' _ P v (.slice pa PN pc) hv (HP.o.ex (aN.o.trans (HC.o.ex.trans h)));rw[bE.o]at this;exact this:Calls Tryz.prog 101 #[v,.slice pa PN pc] w' fun r w''=>r= .returned (.bool BE)/\∃n,w''=w'.drewN n))
   obtain⟨HR,aF,M0,M1,M2,cF⟩:=Ty (bM.o wr HC.o.ex) (show B0≠B1 from by have:=bT.o;have:=bL.o;omega) m0 m1 m2 (aN.o.trans HC.o.ex);clear m0 m1 m2;go_wp2_with fail
   have G0:Ex wr wr.drew:=(Ex.refl wr).drew;obtain⟨aO,cH,bQ,bP⟩:=Of (fun (w5:World) (h5:Ex wr w5)=>(⟨h5.cell M0.o,h5.cell M1.o,h5.cell M2.o⟩:w5.cell? ⟨B1,0,none⟩=some (.slice va i vc)/\w5.cell? ⟨B1,1,none⟩=some (.slice ua i uc)/\w5.cell? ⟨B1,2,none⟩=some (.int .i64 0))) (fun (w5:World) (h5:Ex wr w5)=>bM.o w5 (HC.o.ex.trans h5)) HC.o.o0 HC.o.o1;have bS:=Aa (show ∀v (L:List Int),wr.ownsRow w3.heap.size 3 1 v L.length (Aj L)->∀X,v.ownBlock=some X->X≠B0 from fun v L h X e=>by
    have:=(h.lt X e).1;have:=bL.o;omega)
   have bF:=Aa (fun (w5:World) (h5:Ex wr w5)=>(⟨(World.cell?_setCell_other _ _ _ _ (by intro e;have:=aF.o;simp at e <;> omega)).trans ((World.cell?_setCell_other _ _ _ _ (by intro e;have:=aF.o;simp at e <;> omega)).trans ((World.cell?_setCell_other _ _ _ _ (by intro e;have:=aF.o;simp at e <;> omega)).trans (h5.cell M0.o))),(World.cell?_setCell_other _ _ _ _ (by intro e;have:=aF.o;simp at e <;> omega)).trans ((World.cell?_setCell_other _ _ _ _ (by intro e;have:=aF.o;simp at e <;> omega)).trans ((World.cell?_setCell_other _ _ _ _ (by intro e;have:=aF.o;simp at e <;> omega)).trans (h5.cell M1.o))),(World.cell?_setCell_other _ _ _ _ (by intro e;have:=aF.o;simp at e <;> omega)).trans ((World.cell?_setCell_other _ _ _ _ (by intro e;have:=aF.o;simp at e <;> omega)).trans ((World.cell?_setCell_other _ _ _ _ (by intro e;have:=aF.o;simp at e <;> omega)).trans (h5.cell M2.o)))⟩:(((w5.setCell ⟨B0,0,none⟩ (.slice va i vc)).setCell ⟨B0,1,none⟩ (.slice ua i uc)).setCell ⟨B0,2,none⟩ (.int .i64 0)).cell? ⟨B1,0,none⟩=some (.slice va i vc)/\(((w5.setCell ⟨B0,0,none⟩ (.slice va i vc)).setCell ⟨B0,1,none⟩ (.slice ua i uc)).setCell ⟨B0,2,none⟩ (.int .i64 0)).cell? ⟨B1,1,none⟩=some (.slice ua i uc)/\(((w5.setCell ⟨B0,0,none⟩ (.slice va i vc)).setCell ⟨B0,1,none⟩ (.slice ua i uc)).setCell ⟨B0,2,none⟩ (.int .i64 0)).cell? ⟨B1,2,none⟩=some (.int .i64 0)));clear HC HR
   go_region_held3 (fun w'=>w'.cell? ⟨B1,0,none⟩=some (.slice va i vc)/\w'.cell? ⟨B1,1,none⟩=some (.slice ua i uc)/\w'.cell? ⟨B1,2,none⟩=some (.int .i64 0))
    (first|with_reducible exact bF.o _ X6|with_reducible exact aO.o _ X6|with_reducible exact aO.o _ X5|with_reducible exact aO.o _ G0)
    (first|(go_at_call 55;(with_reducible refine(cJ.o _ G0).mono ?_);rintro e w5⟨v5,rfl,aR,bG⟩;have X5:=G0.trans bG;obtain⟨bV,bU,rfl⟩:=Ad aR;have cG:=Aa (show Ak w5 (.slice bV (i*Q) bU) (il (i*Q) (Pi p m ml (il i (FG Q P)) (il i (Ge Q P)))) from by unfold Ak;rw[Ao,Cy];exact Sl.own aR);clear aR bG)|(go_at_call 101;(with_reducible refine(cN.o _ X5 _ cG.o).mono ?_);rintro e w6⟨rfl,n6,rfl⟩;have X6:=X5.drewN n6;obtain⟨cD,cC,cB,f60,f61,f62⟩:=cH.o _ X6))
   all_goals
    obtain⟨z0,z1,z2⟩:((((w5.drewN n6).setCell ⟨B0,0,none⟩ (.slice va i vc)).setCell ⟨B0,1,none⟩ (.slice ua i uc)).setCell ⟨B0,2,none⟩ (.int .i64 0)).cell? ⟨B0,0,none⟩=some (.slice va i vc)/\((((w5.drewN n6).setCell ⟨B0,0,none⟩ (.slice va i vc)).setCell ⟨B0,1,none⟩ (.slice ua i uc)).setCell ⟨B0,2,none⟩ (.int .i64 0)).cell? ⟨B0,1,none⟩=some (.slice ua i uc)/\((((w5.drewN n6).setCell ⟨B0,0,none⟩ (.slice va i vc)).setCell ⟨B0,1,none⟩ (.slice ua i uc)).setCell ⟨B0,2,none⟩ (.int .i64 0)).cell? ⟨B0,2,none⟩=some (.int .i64 0):=⟨by rw[Af ae,Af ae];exact World.cell?_setCell_same _ _ _ cD,by rw[Af ae];exact World.cell?_setCell_same _ _ _ ((Af ae).trans cC),World.cell?_setCell_same _ _ _ ((Af ae).trans ((Af ae).trans cB))⟩;go_wp2_with fail
    exact bodyPost_ret (v:= .tuple #[.agg #[.slice va i vc,.slice ua i uc,.int .i64 0],.bool BE]) (by simp[results,Tryz.results58,go_sem,z0,z1,z2]) rfl ⟨_,_,rfl,Fj (bA.o.ex X6) (by have:=bS.o _ _ bQ.o;rw[Ao]at this;exact this) _ _ _,Fj (aZ.o.ex X6) (by have:=bS.o _ _ bP.o;rw[Ao]at this;exact this) _ _ _,⟨fun X e=>by have:=(bQ.o.lt X (by rw[Ao];exact e)).1;have:=aN.o.size;omega,fun X e=>by have:=(bP.o.lt X (by rw[Ao];exact e)).1;have:=aN.o.size;omega⟩,Co (cF.o.trans X6) (Nat.le_of_eq cO.o) _ _ _⟩
end
theorem JE(w:World)(SB aA A:Nat)(nv tv sv:Value)(z:Int)(R:World->Prop)(c0:w.cell? (SB,0)=some (.pointer (some (A,0))))(c1:w.cell? (aA,0)=some nv)
  (HC:∀w',Ex w w'->Calls Tryz.prog 142 #[(A,0),.agg #[tv,sv],nv] w' fun r w''=>r= .returned (.int .i64 z)/\R w''):
  Calls Tryz.prog 193 #[.agg #[tv,sv],(SB,0),(aA,0)] w fun r w''=>r= .returned (.int .i64 z)/\R w'':=by
 obtain⟨b0,b1,eb,aB⟩:=AQ w tv sv;have c0:=eb.cell c0;have c1:=eb.cell c1;have HX:=Aa (HC _ eb);obtain⟨B,hB⟩:=nA w.heap.size;rw[hB]at b0 b1;clear HC eb aB;go_enter Tryz.func193,Tryz.ntmps193
 go_wp2_with fail
 refine HX.o.mono ?_;rintro e w6⟨rfl,hr⟩;have HR:=Aa hr;clear hr;go_wp2_with fail
 go_ret;exact⟨rfl,HR.o⟩
def Yq{σ:Type}(St:σ->World->Prop)(DM:World->Nat->Prop)(SB aA A:Nat)(nv:Value)(s:σ)(w:World):Prop:=
 St s w/\w.cell? (SB,0)=some (.pointer (some (A,0)))/\w.cell? (aA,0)=some nv/\¬DM w SB/\¬DM w aA
theorem Yq.stt{σ:Type}{St:σ->World->Prop}{DM:World->Nat->Prop}(H:VO St DM)(SB NTB A:Nat)(nv:Value):VO (Yq St DM SB NTB A nv) DM where
 ex:=fun s w w' h hx=>⟨H.ex _ _ _ h.1 hx,hx.cell h.2.1,hx.cell h.2.2.1,fun hd=>h.2.2.2.1 (H.dx _ _ _ _ h.1 hx hd),fun hd=>h.2.2.2.2 (H.dx _ _ _ _ h.1 hx hd)⟩
 lt:=fun s w B h hd=>H.lt s w B h.1 hd
 dx:=fun s w w' B h hx hd=>H.dx s w w' B h.1 hx hd
theorem Yq.keep{σ:Type}{St:σ->World->Prop}{DM:World->Nat->Prop}{SB aA A:Nat}{nv:Value}{s s':σ}{w w':World}(h:Yq St DM SB aA A nv s w)(hs:St s' w')(k:AR DM w w'):Yq St DM SB aA A nv s' w':=
 ⟨hs,k.cell h.2.2.2.1 h.2.1,k.cell h.2.2.2.2 h.2.2.1,(k.blk SB (η _ _ h.2.1) h.2.2.2.1).2,(k.blk aA (η _ _ h.2.2.1) h.2.2.2.2).2⟩
theorem IZ{l:List Int}{n:Nat}{j:Nat}(h:BW l n=true)(hj:j<n):BW (l ++ [(j:Int)]) n=true:=by
 unfold BW at *;rw[List.all_append,h];simp;omega
structure SrE(p m:Nat)(ml:List Int)(l1 l2:List (List Int))(n A b x0:Nat)(v1 v2:Value)(St:Nat × List Nd->World->Prop)(DM:World->Nat->Prop):Prop where
 stt:VO St DM
 pr:∀s w,St s w->Mw w A b n v1 v2
 gf:∀s w,St s w->Bh w b p m ml x0
 m1:∀s w,St s w->B6 w v1 l1
 m2:∀s w,St s w->B6 w v2 l2
 c11:∀s w,St s w->w.cell? (A,11)=some (.int .i64 s.1)/\w.frozen? (A,11)=false
 le:∀s w,St s w->s.2.length<=s.1/\s.1<=65536
 seen:∀s w,St s w->s.1<65536->St (s.1+1,s.2) (w.setCell (A,11) (.int .i64 ((s.1:Int)+1)))/\AR DM w (w.setCell (A,11) (.int .i64 ((s.1:Int)+1)))
 x1:1<=x0
 x2:x0<p^m
 n64:n<=64
 r1:∀r∈l1,r.length=n
 r2:∀r∈l2,r.length=n
 k1:l1.length<=256
 k2:l2.length<=256
def srS(p m:Nat)(ml:List Int)(l1 l2:List (List Int))(s:Nat × List Nd)(tl sl:List Int):Nat × List Nd:=(s.1+1,s.2 ++ [⟨tl,sl,(E3 p m ml l1 l2 tl sl).1,JS l1.length l2.length (E3 p m ml l1 l2 tl sl)⟩])
def YD(p m:Nat)(ml:List Int)(l1 l2:List (List Int))(n:Nat)(s:Nat × List Nd)(tl sl:List Int)(X:(Nat × List Nd) × Int):(Nat × List Nd) × Int:=
 if s.1=65536 then(s,8) else if 0<=(E3 p m ml l1 l2 tl sl).1 then(srS p m ml l1 l2 s tl sl,0) else if tl.length=n then(srS p m ml l1 l2 s tl sl,18) else X
theorem Pz(p m:Nat)(ml:List Int)(l1 l2:List (List Int))(n:Nat)(s:Nat × List Nd)(tl sl:List Int):Mj p m ml l1 l2 n 0 s tl sl=YD p m ml l1 l2 n s tl sl (srS p m ml l1 l2 s tl sl,0):=rfl
theorem PA(p m:Nat)(ml:List Int)(l1 l2:List (List Int))(n d:Nat)(s:Nat × List Nd)(tl sl:List Int):Mj p m ml l1 l2 n (d+1) s tl sl=YD p m ml l1 l2 n s tl sl (Ek (Mj p m ml l1 l2 n d) (p^m) tl sl n (srS p m ml l1 l2 s tl sl)):=rfl
theorem Po{R1 R2:Nat}(h1:R1<=256)(h2:R2<=256)(s:Int × Int):(JS R1 R2 s).length<=256:=by
 unfold JS S5;split
 .rw[AM];exact h1
 .split
  .rw[AM];exact h2
  .simp
theorem zab{P:Prop}(h:P:=by
 have cC:s.1<65536:=by omega
 have cF:((s.1:Int)==65536)=false:=by simp;omega
 have aZ:(s.1==65536)=false:=by simp;omega
 have bH:=aB.o;rw[if_neg h0]at bH;have aB:=Aa bH;obtain⟨bP,bV⟩:=HH.o.seen _ _ bJ.o cC;have aE:=Aa bP;have aC:=Aa bV;have aV:=aC.o.cell (aP.o SB (by omega)) s0;have bF:=aC.o.cell (aP.o (SB+1) (by omega)) b0;have bE:=aC.o.cell (aP.o (SB+1) (by omega)) b1;have aW:=aC.o.cell (aP.o (SB+1+1) (by omega)) n0;obtain⟨aO,aN,aJ,aI⟩:=Of (cM.o.keep aC.o) (cJ.o.keep aC.o) (show(∀B,SB<=B->B<wC.heap.size->¬DM (wC.setCell (A,11) (.int .i64 ((s.1:Int)+1))) B) from fun B h1 h2=>(aC.o.blk B h2 (aP.o B h1)).2) (show SB<wC.heap.size/\SB+1<wC.heap.size/\SB+1+1<wC.heap.size from⟨World.block_lt_of_cell? _ _ s0,World.block_lt_of_cell? _ _ b0,World.block_lt_of_cell? _ _ n0⟩);have bI:=Aa (JB (wC.setCell (A,11) (.int .i64 ((s.1:Int)+1))) (HH.o.gf _ _ aE.o) HH.o.x1 HH.o.x2 A n HH.o.n64 v1 v2 (HH.o.pr _ _ aE.o) l1 l2 (HH.o.m1 _ _ aE.o) (HH.o.m2 _ _ aE.o) HH.o.r1 HH.o.r2 HH.o.k1 HH.o.k2 tl sl (.slice ta tl.length tc) sv aO.o.1 aN.o.1 bZ.o cB cR.o);clear bP bV bH h0;obtain⟨wD,aX⟩:=nA (wC.setCell (A,11) (.int .i64 ((s.1:Int)+1)));rw[aX]at aE aC aO aN aJ bI aV bF bE aW;go_wp2_with fail
 try simp only[aX]
 clear aX s0 b0 b1 n0 cH cG;refine bI.o.mono ?_;rintro e w5⟨mv,rfl,bT,bU,aG⟩;have cQ:=Aa (HH.o.stt.ex _ _ _ aE.o aG);have aL:=Aa (HH.o.stt.keeps aE.o aG);have n5:=aG.cell aW;have b5:=aG.cell bF;have bD:=aG.cell bE;have s5:=aG.cell aV;have cT:Hia (Da DM w5 mv (JS l1.length l2.length (E3 p m ml l1 l2 tl sl))):=Aa (Da.fresh bT fun B hB=>HH.o.stt.new aE.o aG (bU B hB));obtain⟨aR,aH,cO,cL,aK⟩:=On (HN.o (s.1+1,s.2) w5 tl sl (.slice ta tl.length tc) sv (E3 p m ml l1 l2 tl sl).1 _ mv cQ.o (by show s.2.length<s.1+1;omega) (aO.o.keep aL.o) (aN.o.keep aL.o) cT.o bZ.o (by omega) (Po HH.o.k1 HH.o.k2 _) cS.o) (fun B (h1:SB<=B) (h2:B<wC.heap.size)=>(aL.o.blk B (Nat.lt_of_lt_of_le h2 aC.o.size) (aJ.o B h1 h2)).2) (aO.o.keep aL.o) (aN.o.keep aL.o) (aU.o.trans (aC.o.trans aL.o));clear bT bU aG bI aV bF bE aW aE aO aN aJ;obtain⟨Wi,aT⟩:∃W,(E3 p m ml l1 l2 tl sl).1=W:=⟨_,rfl⟩;rw[aT]at aR aB
 try simp only[aT]
 obtain⟨S1,bC⟩:=nA (srS p m ml l1 l2 s tl sl);have aM:(s.1+1,s.2 ++ [⟨tl,sl,Wi,JS l1.length l2.length (E3 p m ml l1 l2 tl sl)⟩])=S1:=by rw[<-bC,<-aT];rfl
 rw[aM]at aR;rw[bC]at aB HX;clear aT bC aM;by_cases hW:0<=Wi
 .have cE:decide ((0:Int)<=Wi)=true:=by simpa using hW
  have hy:=aB.o;rw[if_pos hW]at hy;subst hy;clear hW aB HX;go_wp2_with (refine aR.o.mono ?_;rintro e w6⟨⟨t,rfl⟩,aD,aA⟩;have aF:=Aa aD;have aQ:=Aa (aK.o.trans aA);clear aD aA)
  go_ret;exact⟨rfl,aF.o,aQ.o⟩
 .have cE:decide ((0:Int)<=Wi)=false:=by simpa using hW
  have bG:=aB.o;rw[if_neg hW]at bG;have aB:=Aa bG;clear hW bG;by_cases hn:tl.length=n
  .have hy:=aB.o;rw[if_pos hn]at hy;subst hy;have cD:((tl.length:Int)==(n:Int))=true:=by simp;omega
   have aY:(tl.length==n)=true:=by simp;omega
   have HA:=Aa (fun w' (h:St S1 w')=>(HH.o.pr _ _ h).c4);clear hn aB HX;go_wp2_with (refine aR.o.mono ?_;rintro e w6⟨⟨t,rfl⟩,aD,aA⟩;have a4:=HA.o w6 aD;have s6:=aA.cell (aH.o SB (by omega) aI.o.1) s5;have b6:=aA.cell (aH.o (SB+1) (by omega) aI.o.2.1) b5;have aF:=Aa aD;have aQ:=Aa (aK.o.trans aA);clear aD aA s5 b5 bD n5)
   go_quiet (fail)
   go_wp2_with fail
   go_ret;exact⟨rfl,HH.o.stt.ex _ _ _ aF.o ((Ex.refl _).drewN _),aQ.o.trans (HH.o.stt.keeps aF.o ((Ex.refl _).drewN _))⟩
  .have hy:=aB.o;rw[if_neg hn]at hy;subst hy;have cD:((tl.length:Int)==(n:Int))=false:=by simp;omega
   have aY:(tl.length==n)=false:=by simp;omega
   have HA:=Aa (fun w' (h:St S1 w')=>(HH.o.pr _ _ h).c4);have bY:=Aa (HX.o hn);clear hn aB HX;go_wp2_with (refine aR.o.mono ?_;rintro e w6⟨⟨t,rfl⟩,aD,aA⟩;have a4:=HA.o w6 aD;have s6:=aA.cell (aH.o SB (by omega) aI.o.1) s5;have b6:=aA.cell (aH.o (SB+1) (by omega) aI.o.2.1) b5;have b6':=aA.cell (aH.o (SB+1) (by omega) aI.o.2.1) bD;have n6:=aA.cell (aH.o (SB+1+1) (by omega) aI.o.2.2) n5;have aF:=Aa aD;have aQ:=Aa (aK.o.trans aA);have cA:=Aa aA;have cN:=Aa (cO.o.keep aA);have cK:=Aa (cL.o.keep aA);clear aD aA s5 b5 bD n5)
   have bK:=Aa (fun B (h1:SB<=B) (h2:B<wC.heap.size)=>(cA.o.blk B (Nat.lt_of_lt_of_le h2 (Nat.le_trans aC.o.size aL.o.size)) (aH.o B h1 h2)).2);have cI:=Aa (fun k=>bY.o (w6.drewN k) SB (SB+1+1) ((Yq.stt HH.o.stt SB (SB+1+1) A _).ex _ _ _ ⟨aF.o,s6,n6,bK.o SB (by omega) aI.o.1,bK.o (SB+1+1) (by omega) aI.o.2.2⟩ ((Ex.refl _).drewN k)) (cN.o.keep (HH.o.stt.keeps aF.o ((Ex.refl _).drewN k))) (cK.o.keep (HH.o.stt.keeps aF.o ((Ex.refl _).drewN k))));have cU:=Aa (fun k=>aQ.o.trans (HH.o.stt.keeps aF.o ((Ex.refl w6).drewN k)));clear bY cA aH bK
   go_quiet (fail)
   go_wp2_with (go_at_call 181;refine(cI.o _).mono ?_;rintro e w8⟨rfl,bQ,bW⟩;have cP:=Aa bQ;have cV:=Aa ((cU.o _).trans bW);clear bQ bW)
   go_ret;exact⟨rfl,cP.o,cV.o⟩):P:=h
theorem zas{P:Prop}(h:P:=by
 have cF:((s.1:Int)==65536)=true:=by simp;omega
 have aZ:(s.1==65536)=true:=by simp;omega
 have hy:=aB.o;rw[if_pos h0]at hy;subst hy;go_wp2_with fail
 go_ret;exact⟨rfl,bJ.o,aU.o⟩):P:=h
theorem QX{p m:Nat}{ml:List Int}{l1 l2:List (List Int)}{n A b x0:Nat}{v1 v2:Value}{St:Nat × List Nd->World->Prop}{DM:World->Nat->Prop}(H:SrE p m ml l1 l2 n A b x0 v1 v2 St DM)(p0:Value)
  (hN:∀s w (tl sl:List Int) tv sv side msg mv,St s w->s.2.length<s.1->Da DM w tv tl->Da DM w sv sl->Da DM w mv msg->sl.length=tl.length->tl.length<=64->msg.length<=256->(s.2≠ []->tl≠ [])->Calls Tryz.prog 172 #[.agg #[tv,sv],.int .i64 side,mv,p0] w fun r w'=>(∃t,r= .returned t)/\St (s.1,s.2 ++ [⟨tl,sl,side,msg⟩]) w'/\AR DM w w')
  (s:Nat × List Nd) (w:World) (tl sl:List Int) (tv sv:Value) (X:(Nat × List Nd) × Int) (cB:tl.length<=n) (bO:sl.length=tl.length) (bR:BW tl n=true) (bS:s.2≠ []->tl≠ []) (hs:St s w) (ht:Da DM w tv tl) (bN:Da DM w sv sl)
  (hX:tl.length≠n->∀w' SB bX,Yq St DM SB bX A (.func (.func 172) #[] #[p0]) (srS p m ml l1 l2 s tl sl) w'->Da DM w' tv tl->Da DM w' sv sl->Calls Tryz.prog 181 #[(A,0),.agg #[tv,sv],.func (.func 193) #[] #[.pointer (some ⟨SB,0,none⟩),.pointer (some ⟨bX,0,none⟩)]] w' fun r w''=>r= .returned (.int .i64 X.2)/\St X.1 w''/\AR DM w' w''):
  Calls Tryz.prog 142 #[(A,0),.agg #[tv,sv],.func (.func 172) #[] #[p0]] w fun r w'=>r= .returned (.int .i64 (YD p m ml l1 l2 n s tl sl X).2)/\St (YD p m ml l1 l2 n s tl sl X).1 w'/\AR DM w w':=by
 have e1:=AF w (.cells #[(A,0)] 186);have s0:(w.alloc (.cells #[(A,0)] 186)).cell? (w.heap.size,0)=some (.pointer (some (A,0))):=ag;have bM:(w.alloc (.cells #[(A,0)] 186)).heap.size=w.heap.size+1:=ag;obtain⟨b0,b1,e2,bL⟩:=AQ (w.alloc (.cells #[(A,0)] 186)) tv sv;have e3:=AF ((w.alloc (.cells #[(A,0)] 186)).alloc (.cells #[tv,sv] 71)) (.cells #[.func (.func 172) #[] #[p0]] 190);have n0:(((w.alloc (.cells #[(A,0)] 186)).alloc (.cells #[tv,sv] 71)).alloc (.cells #[.func (.func 172) #[] #[p0]] 190)).cell? (w.heap.size+1+1,0)=some (.func (.func 172) #[] #[p0]):=by
  exact A5 _ _ _ ag
 rw[bM]at b0 b1 bL;replace s0:=(e2.trans e3).cell s0;replace b0:=e3.cell b0;replace b1:=e3.cell b1;have aS:=e1.trans (e2.trans e3);have bJ:=Aa (H.stt.ex _ _ _ hs aS);have aU:=Aa (H.stt.keeps hs aS);have cM:=Aa (ht.keep aU.o);have cJ:=Aa (bN.keep aU.o);obtain⟨SB,bB⟩:∃B,w.heap.size=B:=⟨_,rfl⟩;rw[bB]at s0 b0 b1 n0;have aP:=Aa (fun B (h:SB<=B)=>H.stt.new hs aS (B:=B) ac);obtain⟨cH,cG⟩:=H.c11 _ _ bJ.o;have hle:=H.le _ _ hs;obtain⟨ta,tc,rfl,-,t2,-⟩:=ht.1.open;unfold maxLen at t2;obtain⟨HH,HN,HX,cR,cS,bZ⟩:=Ty H hN hX bR bS bO;have h64:=H.n64;obtain⟨Y,hY⟩:=nA (YD p m ml l1 l2 n s tl sl X);have bA:=hY;unfold YD at bA;rw[hY];have aB:=Aa bA;clear hs ht bN H hN hX bR bS bO e1 e2 e3 bM bL aS hY bA;go_enter Tryz.func142,Tryz.ntmps142
 go_upto_region 1 with fail
 try simp only[bB]
 clear bB;generalize ((w.alloc (.cells #[(A,0)] 186)).alloc (.cells #[(ta,tl.length,tc),sv] 71)).alloc (.cells #[.func (.func 172) #[] #[p0]] 190)=wC at *;by_cases h0:s.1=65536
 .exact zas
 .exact zab
theorem zah{P:Prop}(h:P:=by
 refine(JE w1 SB aF A _ aG aH (Mj p m ml l1 l2 n d s1 (tl ++ [(j:Int)]) (sl ++ [(c:Int)])).2 (fun w''=>St (Mj p m ml l1 l2 n d s1 (tl ++ [(j:Int)]) (sl ++ [(c:Int)])).1 w''/\AR DM w1 w'') h1.2.1 h1.2.2.1 (fun w2 aI=>?_)).mono ?_
 .have aE:=H.stt.keeps h1.1 aI;refine(ih s1 w2 (tl ++ [(j:Int)]) (sl ++ [(c:Int)]) aG aH (by rw[List.length_append];simp;omega) (by simp[aA]) (IZ aB hj) (fun _=>by simp) (H.stt.ex _ _ _ h1.1 aI) (aK.keep aE) (aM.keep aE)).mono ?_;rintro r w3⟨rfl,h3,h4⟩;exact⟨rfl,h3,aE.trans h4⟩
 .rintro r w3⟨rfl,h3,h4⟩;exact⟨rfl,h1.keep h3 h4,h4⟩):P:=h
theorem Rs{p m:Nat}{ml:List Int}{l1 l2:List (List Int)}{n A b x0:Nat}{v1 v2:Value}{St:Nat × List Nd->World->Prop}{DM:World->Nat->Prop}(H:SrE p m ml l1 l2 n A b x0 v1 v2 St DM)(p0:Value)
  (hN:∀s w (tl sl:List Int) tv sv side msg mv,St s w->s.2.length<s.1->Da DM w tv tl->Da DM w sv sl->Da DM w mv msg->sl.length=tl.length->tl.length<=64->msg.length<=256->(s.2≠ []->tl≠ [])->Calls Tryz.prog 172 #[.agg #[tv,sv],.int .i64 side,mv,p0] w fun r w'=>(∃t,r= .returned t)/\St (s.1,s.2 ++ [⟨tl,sl,side,msg⟩]) w'/\AR DM w w'):
  ∀(d:Nat) (s:Nat × List Nd) (w:World) (tl sl:List Int) (tv sv:Value),tl.length+d=n->sl.length=tl.length->BW tl n=true->(s.2≠ []->tl≠ [])->St s w->Da DM w tv tl->Da DM w sv sl->
  Calls Tryz.prog 142 #[(A,0),.agg #[tv,sv],.func (.func 172) #[] #[p0]] w fun r w'=>r= .returned (.int .i64 (Mj p m ml l1 l2 n d s tl sl).2)/\St (Mj p m ml l1 l2 n d s tl sl).1 w'/\AR DM w w':=by
 intro d
 induction d with
 | zero=>
  intro s w tl sl tv sv hd aA aB aD hs ht aC;rw[Pz];exact QX H p0 hN s w tl sl tv sv _ ac aA aB aD hs ht aC fun h=>absurd hd ac
 | succ d ih=>
  intro s w tl sl tv sv hd aA aB aD hs ht aC;rw[PA];refine QX H p0 hN s w tl sl tv sv _ ac aA aB aD hs ht aC fun hn w' SB aF hb aL aN=>?_;have aJ:=H.gf _ _ hb.1;have hq:=aJ.sh.q;have hq2:=aJ.sh.p2;have hN64:=H.n64;have aO:tl.length<=64:=bz;refine(TY (Yq.stt H.stt SB aF A (.func (.func 172) #[] #[p0])) (Mj p m ml l1 l2 n d) w' A b n (p^m) (ϕ ac) hq H.n64 (.pointer (some ⟨SB,0,none⟩)) (.pointer (some ⟨aF,0,none⟩)) tl sl tv sv (fun s1 w1 h1=>⟨(H.pr _ _ h1.1).c0,(H.pr _ _ h1.1).c4,Cv w1 (H.gf _ _ h1.1)⟩) (fun s1 w1 j c aG aH h1 hj hc hc1 hcq aK aM=>?_) aO ac _ hb aL aN).mono ?_
  .exact zah
  .rintro r w3⟨rfl,h3,h4⟩;exact⟨rfl,h3.1,h4⟩
theorem QW{p m:Nat}{ml:List Int}{l1 l2:List (List Int)}{n A b x0:Nat}{v1 v2:Value}{St:Nat × List Nd->World->Prop}{DM:World->Nat->Prop}(H:SrE p m ml l1 l2 n A b x0 v1 v2 St DM)(p0:Value)
  (hN:∀s w (tl sl:List Int) tv sv side msg mv,St s w->s.2.length<s.1->Da DM w tv tl->Da DM w sv sl->Da DM w mv msg->sl.length=tl.length->tl.length<=64->msg.length<=256->(s.2≠ []->tl≠ [])->Calls Tryz.prog 143 #[.agg #[tv,sv],.int .i64 side,mv,p0] w fun r w'=>(∃t,r= .returned t)/\St (s.1,s.2 ++ [⟨tl,sl,side,msg⟩]) w'/\AR DM w w')
  (s:Nat × List Nd) (w:World) (tl sl:List Int) (tv sv:Value) (X:(Nat × List Nd) × Int) (cB:tl.length<=n) (bO:sl.length=tl.length) (bR:BW tl n=true) (bS:s.2≠ []->tl≠ []) (hs:St s w) (ht:Da DM w tv tl) (bN:Da DM w sv sl)
  (hX:tl.length≠n->∀w' SB bX,Yq St DM SB bX A (.func (.func 143) #[] #[p0]) (srS p m ml l1 l2 s tl sl) w'->Da DM w' tv tl->Da DM w' sv sl->Calls Tryz.prog 181 #[(A,0),.agg #[tv,sv],.func (.func 193) #[] #[.pointer (some ⟨SB,0,none⟩),.pointer (some ⟨bX,0,none⟩)]] w' fun r w''=>r= .returned (.int .i64 X.2)/\St X.1 w''/\AR DM w' w''):
  Calls Tryz.prog 142 #[(A,0),.agg #[tv,sv],.func (.func 143) #[] #[p0]] w fun r w'=>r= .returned (.int .i64 (YD p m ml l1 l2 n s tl sl X).2)/\St (YD p m ml l1 l2 n s tl sl X).1 w'/\AR DM w w':=by
 have e1:=AF w (.cells #[(A,0)] 186);have s0:(w.alloc (.cells #[(A,0)] 186)).cell? (w.heap.size,0)=some (.pointer (some (A,0))):=ag;have bM:(w.alloc (.cells #[(A,0)] 186)).heap.size=w.heap.size+1:=ag;obtain⟨b0,b1,e2,bL⟩:=AQ (w.alloc (.cells #[(A,0)] 186)) tv sv;have e3:=AF ((w.alloc (.cells #[(A,0)] 186)).alloc (.cells #[tv,sv] 71)) (.cells #[.func (.func 143) #[] #[p0]] 190);have n0:(((w.alloc (.cells #[(A,0)] 186)).alloc (.cells #[tv,sv] 71)).alloc (.cells #[.func (.func 143) #[] #[p0]] 190)).cell? (w.heap.size+1+1,0)=some (.func (.func 143) #[] #[p0]):=by
  exact A5 _ _ _ ag
 rw[bM]at b0 b1 bL;replace s0:=(e2.trans e3).cell s0;replace b0:=e3.cell b0;replace b1:=e3.cell b1;have aS:=e1.trans (e2.trans e3);have bJ:=Aa (H.stt.ex _ _ _ hs aS);have aU:=Aa (H.stt.keeps hs aS);have cM:=Aa (ht.keep aU.o);have cJ:=Aa (bN.keep aU.o);obtain⟨SB,bB⟩:∃B,w.heap.size=B:=⟨_,rfl⟩;rw[bB]at s0 b0 b1 n0;have aP:=Aa (fun B (h:SB<=B)=>H.stt.new hs aS (B:=B) ac);obtain⟨cH,cG⟩:=H.c11 _ _ bJ.o;have hle:=H.le _ _ hs;obtain⟨ta,tc,rfl,-,t2,-⟩:=ht.1.open;unfold maxLen at t2;obtain⟨HH,HN,HX,cR,cS,bZ⟩:=Ty H hN hX bR bS bO;have h64:=H.n64;obtain⟨Y,hY⟩:=nA (YD p m ml l1 l2 n s tl sl X);have bA:=hY;unfold YD at bA;rw[hY];have aB:=Aa bA;clear hs ht bN H hN hX bR bS bO e1 e2 e3 bM bL aS hY bA;go_enter Tryz.func142,Tryz.ntmps142
 go_upto_region 1 with fail
 try simp only[bB]
 clear bB;generalize ((w.alloc (.cells #[(A,0)] 186)).alloc (.cells #[(ta,tl.length,tc),sv] 71)).alloc (.cells #[.func (.func 143) #[] #[p0]] 190)=wC at *;by_cases h0:s.1=65536
 .exact zas
 .exact zab
theorem Rr{p m:Nat}{ml:List Int}{l1 l2:List (List Int)}{n A b x0:Nat}{v1 v2:Value}{St:Nat × List Nd->World->Prop}{DM:World->Nat->Prop}(H:SrE p m ml l1 l2 n A b x0 v1 v2 St DM)(p0:Value)
  (hN:∀s w (tl sl:List Int) tv sv side msg mv,St s w->s.2.length<s.1->Da DM w tv tl->Da DM w sv sl->Da DM w mv msg->sl.length=tl.length->tl.length<=64->msg.length<=256->(s.2≠ []->tl≠ [])->Calls Tryz.prog 143 #[.agg #[tv,sv],.int .i64 side,mv,p0] w fun r w'=>(∃t,r= .returned t)/\St (s.1,s.2 ++ [⟨tl,sl,side,msg⟩]) w'/\AR DM w w'):
  ∀(d:Nat) (s:Nat × List Nd) (w:World) (tl sl:List Int) (tv sv:Value),tl.length+d=n->sl.length=tl.length->BW tl n=true->(s.2≠ []->tl≠ [])->St s w->Da DM w tv tl->Da DM w sv sl->
  Calls Tryz.prog 142 #[(A,0),.agg #[tv,sv],.func (.func 143) #[] #[p0]] w fun r w'=>r= .returned (.int .i64 (Mj p m ml l1 l2 n d s tl sl).2)/\St (Mj p m ml l1 l2 n d s tl sl).1 w'/\AR DM w w':=by
 intro d
 induction d with
 | zero=>
  intro s w tl sl tv sv hd aA aB aD hs ht aC;rw[Pz];exact QW H p0 hN s w tl sl tv sv _ ac aA aB aD hs ht aC fun h=>absurd hd ac
 | succ d ih=>
  intro s w tl sl tv sv hd aA aB aD hs ht aC;rw[PA];refine QW H p0 hN s w tl sl tv sv _ ac aA aB aD hs ht aC fun hn w' SB aF hb aL aN=>?_;have aJ:=H.gf _ _ hb.1;have hq:=aJ.sh.q;have hq2:=aJ.sh.p2;have hN64:=H.n64;have aO:tl.length<=64:=bz;refine(TY (Yq.stt H.stt SB aF A (.func (.func 143) #[] #[p0])) (Mj p m ml l1 l2 n d) w' A b n (p^m) (ϕ ac) hq H.n64 (.pointer (some ⟨SB,0,none⟩)) (.pointer (some ⟨aF,0,none⟩)) tl sl tv sv (fun s1 w1 h1=>⟨(H.pr _ _ h1.1).c0,(H.pr _ _ h1.1).c4,Cv w1 (H.gf _ _ h1.1)⟩) (fun s1 w1 j c aG aH h1 hj hc hc1 hcq aK aM=>?_) aO ac _ hb aL aN).mono ?_
  .exact zah
  .rintro r w3⟨rfl,h3,h4⟩;exact⟨rfl,h3.1,h4⟩
def F5(e1 e2:Int)(aA:Bool)(n n':Int)(tl sl:List Int)(q:Nat):Int:=
 if e1≠0 then e1 else if e2≠0 then e2 else if aA=false∨n≠n' then 10 else if tl.length≠sl.length∨n<tl.length then 3 else if FP tl n≠0 then FP tl n else Iz q sl
structure AX where
 p:Int
 m:Int
 ml:List Int
 n:Int
 rows:List (List Int)
def AX.arg(c:AX)(mv gv:Value):Value:= .agg #[c.p,c.m,mv,c.n,gv]
def AX.obj(c:AX)(mv gv:Value):Obj:= .cells #[c.p,c.m,mv,c.n,gv] 39
structure AX.at(c:AX)(w:World)(mv gv:Value):Prop where
 m:Ak w mv c.ml
 g:B6 w gv c.rows
theorem AX.at.ex{c:AX}{w w':World}{mv gv:Value}(h:c.at w mv gv)(hx:Ex w w'):c.at w' mv gv:=⟨h.m.ex hx,h.g.ex hx⟩
def StO(c d:AX)(tl sl:List Int)(v1 v2:Value)(w:World)(r:Ending)(w':World):Prop:=
 ∃e1 e2:Int,Bw c.p c.m c.ml c.n c.rows e1/\(e1=0->Bw d.p d.m d.ml d.n d.rows e2)/\
  ((F5 e1 e2 (CE c.p c.m c.ml d.p d.m d.ml) c.n d.n tl sl (c.p.toNat^c.m.toNat)≠0/\∃ptr:Option Addr,r= .returned (.tuple #[.pointer ptr,.int .i64 (F5 e1 e2 (CE c.p c.m c.ml d.p d.m d.ml) c.n d.n tl sl (c.p.toNat^c.m.toNat))]))∨
  (F5 e1 e2 (CE c.p c.m c.ml d.p d.m d.ml) c.n d.n tl sl (c.p.toNat^c.m.toNat)=0/\∃(w2:World) (A b x0 pn mn nn:Nat),c.p=pn/\c.m=mn/\c.n=nn/\r= .returned (.tuple #[(A,0),Ω])/\Ex w w2/\Bh w2 b pn mn c.ml x0/\1<=x0/\x0<pn^mn/\w2.heap.size<=A/\Ex w2 w'/\Mw w' A b nn v1 v2/\w'.cell? (A,11)=some (.int .i64 0)/\w'.frozen? (A,11)=false))
theorem DH{p m:Int}{ml:List Int}{n:Int}{rows:List (List Int)}(h:Bw p m ml n rows 0):FD p m ml/\1<=n/\n<=64:=by
 rcases h with⟨_,h⟩|⟨_,h1,h2⟩|⟨h1,h2,h3⟩
 .cases h
 .exact absurd h2.symm h1
 .refine⟨?_,?_⟩
  .rcases h3 with⟨h3,h4⟩|⟨_,pn,mn,N,piv,a',_,_,_,h,_⟩
   .exact absurd h4.symm h3
   .exact h
  .unfold Eo at h2;split at h2
   .cases h2
   .omega
theorem C8(w:World)(c:AX)(mv gv:Value):(w.alloc (c.obj mv gv)).cell? (w.heap.size,0)=some (.int .i64 c.p)/\(w.alloc (c.obj mv gv)).cell? (w.heap.size,1)=some (.int .i64 c.m)/\(w.alloc (c.obj mv gv)).cell? (w.heap.size,2)=some mv/\(w.alloc (c.obj mv gv)).cell? (w.heap.size,3)=some (.int .i64 c.n)/\(w.alloc (c.obj mv gv)).cell? (w.heap.size,4)=some gv:=
 ⟨by simp[AX.obj],by simp[AX.obj],by simp[AX.obj],by simp[AX.obj],by simp[AX.obj]⟩
theorem Gk{c d:AX}{tl sl:List Int}{v1 v2:Value}{w w':World}{e1 e2 E:Int}(h1:Bw c.p c.m c.ml c.n c.rows e1)(h2:e1=0->Bw d.p d.m d.ml d.n d.rows e2)(hE:F5 e1 e2 (CE c.p c.m c.ml d.p d.m d.ml) c.n d.n tl sl (c.p.toNat^c.m.toNat)=E)(h:E≠0)(aA:Option Addr):
  StO c d tl sl v1 v2 w (.returned (.tuple #[.pointer aA,E])) w':=
 ⟨e1,e2,h1,h2,.inl ⟨by rw[hE];exact h,aA,by rw[hE]⟩⟩
theorem zbj{P:Prop}(h:P:=by
 go_wp2_with (go_at_call 191;refine aG.o.mono ?_;rintro e w4⟨rfl,aC⟩;have aB:=Aa (aE.o.trans aC);clear c0 c1 c2 c3 c4 d0 d1 d2 d3 d4 b0 b1;obtain⟨c0,c1,c2,c3,c4,d0,d1,d2,d3,d4,b0,b1⟩:=aA.o w4 aB.o;clear aC)
 go_ret2;exact⟨Gk aD.o (fun _=>aF.o) HE.o (by decide) _,HX.o.trans aB.o⟩):P:=h
theorem dd{P:Prop}(h:P:=by simpa using h1):P:=h
theorem IU(w:World)(c d:AX)(m1 m2 v1 v2:Value)(hc:c.at w m1 v1)(hd:d.at w m2 v2)(tl sl:List Int)(tv sv:Value)(ht:Ak w tv tl)(hs:Ak w sv sl):
  Calls Tryz.prog 141 #[c.arg m1 v1,d.arg m2 v2,.agg #[tv,sv]] w fun r w'=>StO c d tl sl v1 v2 w r w'/\Ex w w':=by
 obtain⟨c0,c1,c2,c3,c4⟩:=C8 w c m1 v1;obtain⟨d0,d1,d2,d3,d4⟩:=C8 (w.alloc (c.obj m1 v1)) d m2 v2;obtain⟨b0,b1,e3,-⟩:=AQ ((w.alloc (c.obj m1 v1)).alloc (d.obj m2 v2)) tv sv;have aW:(w.alloc (c.obj m1 v1)).heap.size=w.heap.size+1:=ag;have aV:((w.alloc (c.obj m1 v1)).alloc (d.obj m2 v2)).heap.size=w.heap.size+1+1:=ag;have e1:=AF w (c.obj m1 v1);have e2:=AF (w.alloc (c.obj m1 v1)) (d.obj m2 v2);rw[aW]at d0 d1 d2 d3 d4;rw[aV]at b0 b1;have aX:=e1.trans (e2.trans e3);replace c0:=(e2.trans e3).cell c0;replace c1:=(e2.trans e3).cell c1;replace c2:=(e2.trans e3).cell c2;replace c3:=(e2.trans e3).cell c3;replace c4:=(e2.trans e3).cell c4;replace d0:=e3.cell d0;replace d1:=e3.cell d1;replace d2:=e3.cell d2;replace d3:=e3.cell d3;replace d4:=e3.cell d4;obtain⟨B,hB⟩:=nA w.heap.size;rw[hB]at c0 c1 c2 c3 c4 d0 d1 d2 d3 d4 b0 b1;obtain⟨ta,tc,rfl,-,t2,-⟩:=ht.open;obtain⟨sa,sc,rfl,-,s2,-⟩:=hs.open;obtain⟨x1,y1,rfl,-,z1,-⟩:=hc.g.open;obtain⟨x2,y2,rfl,-,z2,-⟩:=hd.g.open;obtain⟨x3,y3,rfl,-,z3,-⟩:=hc.m.open;obtain⟨x4,y4,rfl,-,z4,-⟩:=hd.m.open;unfold maxLen at t2 s2 z1 z2 z3 z4;obtain⟨HX,HC,HD,HT,HS⟩:=On aX hc hd ht hs;clear hc hd ht hs e1 e2 e3 aW aV aX;unfold AX.arg;go_enter Tryz.func141,Tryz.ntmps141
 unfold AX.obj at c0 c1 c2 c3 c4 d0 d1 d2 d3 d4 b0 b1 HX;go_upto_region 1 with fail
 try simp only[hB]
 clear hB;generalize ((w.alloc (.cells #[c.p,c.m,(x3,c.ml.length,y3),c.n,(x1,c.rows.length,y1)] 39)).alloc (.cells #[d.p,d.m,(x4,d.ml.length,y4),d.n,(x2,d.rows.length,y2)] 39)).alloc (.cells #[(ta,tl.length,tc),(sa,sl.length,sc)] 71)=w1 at *;have aA:=Aa (fun w' (h:Ex w1 w')=>(⟨h.cell c0,h.cell c1,h.cell c2,h.cell c3,h.cell c4,h.cell d0,h.cell d1,h.cell d2,h.cell d3,h.cell d4,h.cell b0,h.cell b1⟩:_/\_/\_/\_/\_/\_/\_/\_/\_/\_/\_/\_));have aL:=Aa (D6 w1 c.p c.m c.ml _ (HC.o.m.ex HX.o) c.n c.rows _ (HC.o.g.ex HX.o));go_wp2_with fail
 refine aL.o.mono ?_;rintro e w2⟨⟨e1,rfl,bA⟩,aQ⟩;clear c0 c1 c2 c3 c4 d0 d1 d2 d3 d4 b0 b1 aL;obtain⟨c0,c1,c2,c3,c4,d0,d1,d2,d3,d4,b0,b1⟩:=aA.o w2 aQ;have aJ:=Aa aQ;have aD:=Aa bA;clear aQ bA;by_cases h1:e1=0
 .have k1:(e1==0)=true:=by simpa using h1
  have HF:=Aa (DH (h1 ▸ aD.o));have aL:=Aa (D6 w2 d.p d.m d.ml _ (HD.o.m.ex (HX.o.trans aJ.o)) d.n d.rows _ (HD.o.g.ex (HX.o.trans aJ.o)));have H1:=Aa h1;subst h1;go_wp2_with fail
  refine aL.o.mono ?_;rintro e w3⟨⟨e2,rfl,aZ⟩,aP⟩;clear c0 c1 c2 c3 c4 d0 d1 d2 d3 d4 b0 b1 aL;obtain⟨c0,c1,c2,c3,c4,d0,d1,d2,d3,d4,b0,b1⟩:=aA.o w3 (aJ.o.trans aP);have aE:=Aa (aJ.o.trans aP);have aF:=Aa aZ;clear aP aZ aJ;by_cases h2:e2=0
  .have k2:(e2==0)=true:=by simpa using h2
   have aG:=Aa (VJ w3 c.p c.m c.ml _ (HC.o.m.ex (HX.o.trans aE.o)) d.p d.m d.ml _ (HD.o.m.ex (HX.o.trans aE.o)));obtain⟨Sm,aR⟩:∃b,CE c.p c.m c.ml d.p d.m d.ml=b:=⟨_,rfl⟩;rw[aR]at aG;have aN:=Aa aR;subst h2;clear aR
   cases Sm with
   | false=>
    have HE:Hia (F5 0 0 (CE c.p c.m c.ml d.p d.m d.ml) c.n d.n tl sl (c.p.toNat^c.m.toNat)=10):=Aa (by
     unfold F5;rw[if_neg ae,if_neg ae,if_pos (.inl aN.o)])
    exact zbj
   | true=>
    by_cases hn:c.n=d.n
    .have k3:(c.n !=d.n)=false:=by simp[hn]
     by_cases hl:tl.length=sl.length
     .have k4:((tl.length:Int) !=(sl.length:Int))=false:=by simp;omega
      have bG:(tl.length !=sl.length)=false:=aq;by_cases hg:c.n<tl.length
      .have k5:decide ((tl.length:Int) > c.n)=true:=by simpa using hg
       have bF:decide (c.n<(tl.length:Int))=true:=by simpa using hg
       have HE:Hia (F5 0 0 (CE c.p c.m c.ml d.p d.m d.ml) c.n d.n tl sl (c.p.toNat^c.m.toNat)=3):=Aa (by
        unfold F5;rw[if_neg ae,if_neg ae,if_neg (by rw[aN.o];simp[hn]),if_pos (.inr hg)])
       have bJ:=Aa hl;clear hn hl hg;exact zbj
      .have k5:decide ((tl.length:Int) > c.n)=false:=by simpa using hg
       have bF:decide (c.n<(tl.length:Int))=false:=by simpa using hg
       have HE:Hia (F5 0 0 (CE c.p c.m c.ml d.p d.m d.ml) c.n d.n tl sl (c.p.toNat^c.m.toNat)=if FP tl c.n≠0 then FP tl c.n else Iz (c.p.toNat^c.m.toNat) sl):=Aa (by
        unfold F5;rw[if_neg ae,if_neg ae,if_neg (by rw[aN.o];simp[hn]),if_neg ac])
       have aU:=Aa (fun w' (h:Ex w1 w')=>Hh w' tl _ c.n (HT.o.ex (HX.o.trans h)));obtain⟨I,hI⟩:=nA (FP tl c.n);rw[hI]at aU HE;have bJ:=Aa hl;clear hn hl hg hI;by_cases hi0:I=0
       .have k6:(I !=0)=false:=by simp[hi0]
        have bE:(I==0)=true:=by simp[hi0]
        have bH:=Aa (fun w' (h:Ex w1 w')=>FV c.p c.m c.ml _ w' (HC.o.m.ex (HX.o.trans h)));have aH:=HE.o;rw[if_neg (by simp[hi0])]at aH;have HE:=Aa aH;subst hi0;clear aH;go_wp2_with (first|(go_at_call 191;refine aG.o.mono ?_;rintro e w4⟨rfl,aC⟩;have aB:=Aa (aE.o.trans aC);clear c0 c1 c2 c3 c4 d0 d1 d2 d3 d4 b0 b1;obtain⟨c0,c1,c2,c3,c4,d0,d1,d2,d3,d4,b0,b1⟩:=aA.o w4 aB.o;clear aC)|(go_at_call 150;refine(aU.o _ aB.o).mono ?_;rintro e w5⟨rfl,aK⟩;have aI:=Aa (aB.o.trans aK);clear c0 c1 c2 c3 c4 d0 d1 d2 d3 d4 b0 b1;obtain⟨c0,c1,c2,c3,c4,d0,d1,d2,d3,d4,b0,b1⟩:=aA.o w5 aI.o;clear aK))
        refine(bH.o _ aI.o).mono ?_;rintro e w6⟨ho,aY⟩;clear c0 c1 c2 c3 c4 d0 d1 d2 d3 d4 b0 b1;have aT:=Aa (aI.o.trans aY);obtain⟨c0,c1,c2,c3,c4,d0,d1,d2,d3,d4,b0,b1⟩:=aA.o w6 aT.o;clear aY;rcases ho with⟨pn,mn,x0,b,hp,hm,rfl,hgf,hx01,hx02⟩|⟨hnf,_⟩
        .have bD:=Aa (JP w6 hgf sl _ (HS.o.ex (HX.o.trans aT.o)));have HG:=Aa hgf;obtain⟨Fc,aS⟩:∃F,Iz (pn^mn) sl=F:=⟨_,rfl⟩;rw[aS]at bD;have bC:=Aa (show c.p=pn/\c.m=mn from⟨hp,hm⟩);have HE:Hia (F5 0 0 (CE c.p c.m c.ml d.p d.m d.ml) c.n d.n tl sl (c.p.toNat^c.m.toNat)=Fc):=Aa (by
          rw[HE.o,hp,hm,<-aS];rfl)
         have bB:=Aa (show 1<=x0/\x0<pn^mn from⟨hx01,hx02⟩);clear hgf aS hp hm hx01 hx02;go_wp2_with fail
         refine bD.o.mono ?_;rintro e w7⟨rfl,aO⟩;clear c0 c1 c2 c3 c4 d0 d1 d2 d3 d4 b0 b1;have aM:=Aa (aT.o.trans aO);have bK:=Aa (HG.o.ex aO);obtain⟨c0,c1,c2,c3,c4,d0,d1,d2,d3,d4,b0,b1⟩:=aA.o w7 aM.o;clear aO;go_wp2_with fail
         go_ret2;by_cases hf0:Fc=0
         .subst hf0;refine⟨⟨0,0,aD.o,fun _=>aF.o,.inr ⟨HE.o,w7,w7.heap.size,b,x0,pn,mn,c.n.toNat,bC.o.1,bC.o.2,by have:=HF.o.2.1;omega,rfl,HX.o.trans aM.o,bK.o,bB.o.1,bB.o.2,Nat.le_refl _,AF w7 _,⟨ag,?_,ag,ag⟩,ag,ag⟩⟩,(HX.o.trans aM.o).alloc _⟩;have:((c.n.toNat:Nat):Int)=c.n:=by have:=HF.o.2.1;omega
          rw[this];simp
         .exact⟨Gk aD.o (fun _=>aF.o) HE.o hf0 _,(HX.o.trans aM.o).alloc _⟩
        .exact absurd HF.o.1 hnf
       .have k6:(I !=0)=true:=by simpa using hi0
        have bE:(I==0)=false:=by simpa using hi0
        have aH:=HE.o;rw[if_pos hi0]at aH;have HE:=Aa aH;have bI:=Aa hi0;clear aH hi0;go_wp2_with (first|(go_at_call 191;refine aG.o.mono ?_;rintro e w4⟨rfl,aC⟩;have aB:=Aa (aE.o.trans aC);clear c0 c1 c2 c3 c4 d0 d1 d2 d3 d4 b0 b1;obtain⟨c0,c1,c2,c3,c4,d0,d1,d2,d3,d4,b0,b1⟩:=aA.o w4 aB.o;clear aC)|(go_at_call 150;refine(aU.o _ aB.o).mono ?_;rintro e w5⟨rfl,aK⟩;have aI:=Aa (aB.o.trans aK);clear c0 c1 c2 c3 c4 d0 d1 d2 d3 d4 b0 b1;obtain⟨c0,c1,c2,c3,c4,d0,d1,d2,d3,d4,b0,b1⟩:=aA.o w5 aI.o;clear aK))
        go_ret2;exact⟨Gk aD.o (fun _=>aF.o) HE.o bI.o _,HX.o.trans aI.o⟩
     .have k4:((tl.length:Int) !=(sl.length:Int))=true:=by simp;omega
      have bG:(tl.length !=sl.length)=true:=aq;have HE:Hia (F5 0 0 (CE c.p c.m c.ml d.p d.m d.ml) c.n d.n tl sl (c.p.toNat^c.m.toNat)=3):=Aa (by
       unfold F5;rw[if_neg ae,if_neg ae,if_neg (by rw[aN.o];simp[hn]),if_pos (.inl hl)])
      clear hn hl;exact zbj
    .have k3:(c.n !=d.n)=true:=by simpa using hn
     have HE:Hia (F5 0 0 (CE c.p c.m c.ml d.p d.m d.ml) c.n d.n tl sl (c.p.toNat^c.m.toNat)=10):=Aa (by
      unfold F5;rw[if_neg ae,if_neg ae,if_pos (.inr hn)])
     clear hn;exact zbj
  .have k2:(e2==0)=false:=by simpa using h2
   have k2':(e2 !=0)=true:=by simpa using h2
   have HE:Hia (F5 0 e2 (CE c.p c.m c.ml d.p d.m d.ml) c.n d.n tl sl (c.p.toNat^c.m.toNat)=e2):=Aa (by
    unfold F5;rw[if_neg ae,if_pos h2])
   have HI:=Aa h2;clear h2;go_wp2_with fail
   go_ret2;exact⟨Gk aD.o (fun _=>aF.o) HE.o HI.o _,HX.o.trans aE.o⟩
 .have k1:(e1==0)=false:=by simpa using h1
  have k1':(e1 !=0)=true:=dd;have HE:Hia (F5 e1 0 (CE c.p c.m c.ml d.p d.m d.ml) c.n d.n tl sl (c.p.toNat^c.m.toNat)=e1):=Aa (by
   unfold F5;rw[if_pos h1])
  have HI:=Aa h1;clear h1;go_wp2_with fail
  go_ret2;exact⟨Gk aD.o (fun h=>absurd h HI.o) HE.o HI.o _,HX.o.trans aJ.o⟩
end Go.Proofs.YtehieobniamagaaGreat
