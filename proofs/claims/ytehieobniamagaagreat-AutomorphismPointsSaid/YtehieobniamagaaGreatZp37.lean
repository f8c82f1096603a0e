/- Walk of the reference's Map (printed by gen_rmp.py out of XAuY.src). -/
import Derived.Deep.CutRange
import Derived.Test.YtehieobniamagaaGreatZp06
import Derived.Test.YtehieobniamagaaGreatZp17
import Derived.Test.YtehieobniamagaaGreatZp26
import Derived.Test.YtehieobniamagaaGreatZp34
import Derived.Test.YtehieobniamagaaGreatZp36
namespace Go.Proofs.YtehieobniamagaaGreat
set_option linter.unusedVariables false
set_option linter.unusedSimpArgs false
set_option maxRecDepth 100000
set_option maxHeartbeats 16000000
open Go.RowKit
theorem XL{p m N:Nat}{ml P:List Int}(hc:BN p m ml=0)(h1:1<=N)(h2:N<=64)(hk:AU P=0)(hl:P.length=N*(p^m-1))(hb:JK p m ml N P=true):
  Ck p m ml N (il N (BW (p^m-1) P)) (il N (Cj (p^m-1) P)) 0=0:=by
 obtain⟨pn,mn,e1,e2,hf,hpr,hF⟩:=(BH _ _ _).1 hc;obtain rfl:pn=p:=ac;obtain rfl:mn=m:=ac;have hq2:2<=pn^mn:=Nat.le_trans hf.p2 (Nat.le_self_pow (by have:=hf.m1;omega) pn);have aG:1<=pn:=by have:=hf.p2;omega
 obtain⟨Q,hQ⟩:=nA (pn^mn-1);have aB:0<Q:=ac;rw[hQ]at hl ⊢;have hrg:=Jn hk;obtain⟨n0,f,_,_,k1,k2,k3⟩:=IF hk;obtain rfl:n0=N*Q:=ac;have aI:∀k,k<N*Q->P.getD k 0=(f k:Int)/\f k<N*Q:=fun k hk=>by
  refine⟨?_,k2.lt k hk⟩;rw[k3,List.getD_eq_getElem?_getD,CY hk];rfl
 have aA:∀i,i<N->BW Q P i=((f (i*Q)/Q:Nat):Int)/\Cj Q P i=((f (i*Q)%Q+1:Nat):Int)/\f (i*Q)/Q<N/\f (i*Q)%Q<Q:=fun i hi=>by
  obtain⟨a,b⟩:=aI (i*Q) (by have:=WL hi aB;omega);unfold BW Cj;rw[a];refine⟨by norm_cast,by push_cast;rfl,Nat.div_lt_of_lt_mul (by rw[Nat.mul_comm Q N];exact b),Nat.mod_lt _ aB⟩
 have aC:∀i,i<N->Et (il N (BW Q P)) i=f (i*Q)/Q:=fun i hi=>by
  unfold Et;rw[List.getD_eq_getElem?_getD,AH hi];show(BW Q P i).toNat=_
  rw[(aA i hi).1];exact Int.toNat_natCast _
 have aE:∀i,i<N->(il N (Cj Q P)).getD i 0=((f (i*Q)%Q+1:Nat):Int):=fun i hi=>by
  rw[List.getD_eq_getElem?_getD,AH hi];exact(aA i hi).2.1
 have aF:∀i c,i<N->c<Q->f (i*Q+c)=f (i*Q)/Q*Q+(Ar pn mn (lw ml) (f (i*Q)%Q+1) (c+1)-1)/\1<=Ar pn mn (lw ml) (f (i*Q)%Q+1) (c+1):=fun i c hi aD=>by
  have aH:=WL hi aD;have e:Fu pn mn ml (il N (BW Q P)) (il N (Cj Q P))=P:=by
   have:=of_decide_eq_true hb
   rwa[hQ]at this
  have e3:=congrArg (fun l=>l.getD (i*Q+c) 0) e
  try simp only at e3
  rw[(aI _ aH).1]at e3;unfold Fu at e3;rw[Aj,hQ,List.getD_eq_getElem?_getD,AH aH]at e3;have e4:Jt pn mn ml (il N (BW Q P)) (il N (Cj Q P)) (i*Q+c)=(f (i*Q+c):Int):=e3;unfold Jt at e4;rw[hQ,Nat.mul_comm i Q,Nat.mul_add_div aB,Nat.mul_add_mod,Nat.div_eq_of_lt aD,Nat.mod_eq_of_lt aD,Nat.add_zero,aC i hi,aE i hi,Bu (by have:=(aA i hi).2.2.2;omega),Nat.mul_comm Q i]at e4;have aJ:=hF.ne_zero hf.p2 hf.m1 (show 1<=f (i*Q)%Q+1 by omega) (show f (i*Q)%Q+1<pn^mn by have:=(aA i hi).2.2.2;omega) (show 1<=c+1 by omega) (show c+1<pn^mn by omega);refine⟨ac,aJ⟩
 have hM:DZ pn mn ml (il N (BW Q P)) (il N (Cj Q P)) 0 N:=by
  refine⟨hf.p2,hf.m1,hF,h1,h2,Aj _ _,Aj _ _,⟨fun i hi=>?_,fun i j hi hj e=>?_⟩,fun i hi=>?_,by have:=hf.m1;omega⟩
  .rw[aC i hi];exact(aA i hi).2.2.1
  .rw[aC i hi,aC j hj]at e;have si:=(aA i hi).2.2.2;have sj:=(aA j hj).2.2.2;obtain⟨g1,g2,g3⟩:=VP hf.p2 hf.m1 hF (show 1<=f (j*Q)%Q+1 by omega) (show f (j*Q)%Q+1<pn^mn by omega);have n1:=hF.ne_zero hf.p2 hf.m1 g1 g2 (show 1<=f (i*Q)%Q+1 by omega) (show f (i*Q)%Q+1<pn^mn by omega);have n2:=Cg (p:=pn) (m:=mn) (low:=lw ml) aG (F5 pn mn ml (f (j*Q)%Q+1)) (f (i*Q)%Q+1);obtain⟨d,hd⟩:∃d,Ar pn mn (lw ml) (F5 pn mn ml (f (j*Q)%Q+1)) (f (i*Q)%Q+1)=d+1:=⟨_,(Nat.sub_add_cancel n1).symm⟩;have m1:Ar pn mn (lw ml) (f (j*Q)%Q+1) (d+1)=f (i*Q)%Q+1:=by
    rw[<-hd,<-Dg aG,g3,DR hf.p2 hf.m1 ac]
   obtain⟨e5,_⟩:=aF j d hj ac;obtain⟨e6,_⟩:=aF i 0 hi aB;rw[m1,<-e]at e5;rw[Nat.zero_add,Cb hf.p2 hf.m1 ac]at e6;have e7:=k2.inj _ _ (e6.trans e5.symm);exact(Xs aB (show d<Q by omega) e7).1
  .exact⟨_,aE i hi,ac,by have:=(aA i hi).2.2.2;omega⟩
 exact XA hc hM fun i hi=>by
  rw[List.getD_eq_getElem?_getD,AH hi];show 0<=BW Q P i
  rw[(aA i hi).1];exact Int.natCast_nonneg _
theorem zaY{P:Prop}(h:P:=by
 go_wp2_with fail
 exact bodyPost_ret (v:= .tuple #[.agg #[.slice none 0 0,.slice none 0 0,.int .i64 0],.int .i64 4]) (by simp[results,Tryz.results18,go_sem,q0,q1,q2]) rfl ⟨DS (aL.o 4 (by decide) HR.o) HR.o,AT (HE.o.trans bA.o) aH.o _ _ _⟩):P:=h
theorem aq{P:Prop}(h:P:=by simp[results,Tryz.results18,go_sem,q0,q1,q2]):P:=h
theorem SV(w:World)(p m:Int)(ml:List Int)(mv:Value)(bY:Ak w mv ml)(n:Int)(hn:-9223372036854775808<=n/\n<=9223372036854775807)(P:List Int)(pv:Value)(hp:Ak w pv P):
  Calls Tryz.prog 18 #[.agg #[.int .i64 p,.int .i64 m,mv],.int .i64 n,pv] w fun r w'=>Zr (Tk p m ml n P) (Mb p m ml n P) r w'/\Ex w w':=by
 obtain⟨a0,a1,a2,ea⟩:=B3 w p m mv;obtain⟨BX,bI⟩:∃B,w.heap.size=B:=⟨_,rfl⟩;have dF:(w.alloc (.cells #[.int .i64 p,.int .i64 m,mv] 24)).heap.size=BX+1:=by simp[bI]
 have bq:=WD.new (w.alloc (.cells #[.int .i64 p,.int .i64 m,mv] 24));rw[dF]at bq;have eb:=(Ex.refl (w.alloc (.cells #[.int .i64 p,.int .i64 m,mv] 24))).alloc (.cells #[.slice none 0 0,.slice none 0 0,.int .i64 0] 26);replace a0:=eb.cell a0;replace a1:=eb.cell a1;replace a2:=eb.cell a2;have HE:=Aa (ea.trans eb);have cM:=Aa (bY.ex HE.o);have HP:=Aa (hp.ex HE.o);obtain⟨ma,mc,rfl,_,_,_⟩:=bY.open;obtain⟨pa,pc,rfl,_,z2,p3⟩:=(hp.ex HE.o).open;unfold maxLen at z2;rw[bI]at a0 a1 a2;have aH:=Aa (show w.heap.size<=BX+1 from ac);have eE:=Aa (show((w.alloc (.cells #[.int .i64 p,.int .i64 m,.slice ma ml.length mc] 24)).alloc (.cells #[.slice none 0 0,.slice none 0 0,.int .i64 0] 26)).heap.size=BX+1+1 from by simp[bI]);have BQ:=Aa bq;have P3:=Aa p3;obtain⟨ME,bO⟩:∃x,Mb p m ml n P=x:=⟨_,rfl⟩;obtain⟨MM,cD⟩:∃x,Tk p m ml n P=x:=⟨_,rfl⟩;have bM:=Aa bO;have cP:=Aa (show MM=if ME=0 then⟨il n.toNat (BW (p.toNat^m.toNat-1) P),il n.toNat (Cj (p.toNat^m.toNat-1) P),0⟩ else⟨[], [],0⟩ from by rw[<-cD,<-bO];rfl);have aL:=Aa (show ∀e,e≠0->ME=e->MM=⟨[], [],0⟩ from fun e h1 h2=>by rw[cP.o,if_neg (by rw[h2];exact h1)]);rw[bO,cD];clear bO cD bY hp ea eb bq dF p3;go_enter Tryz.func18,Tryz.ntmps18
 go_upto_region 1 with fail
 try simp only[bI]
 clear bI;generalize (w.alloc (.cells #[.int .i64 p,.int .i64 m,.slice ma ml.length mc] 24)).alloc (.cells #[.slice none 0 0,.slice none 0 0,.int .i64 0] 26)=w1 at *;have dS:=Aa (fun (w5:World) (h5:Ex w1 w5)=>(⟨h5.cell a0,h5.cell a1,h5.cell a2⟩:w5.cell? ⟨BX,0,none⟩=some (.int .i64 p)/\w5.cell? ⟨BX,1,none⟩=some (.int .i64 m)/\w5.cell? ⟨BX,2,none⟩=some (.slice ma ml.length mc)));have cV:=Aa (Ji p m ml _ w1 cM.o);obtain⟨CK,cF⟩:∃x,BN p m ml=x:=⟨_,rfl⟩;have HC:=Aa cF;rw[cF]at cV;clear cF;go_wp2_with fail
 refine cV.o.mono ?_;rintro e w2⟨rfl,aX⟩;obtain⟨q0,q1,q2,aE,aD,aC⟩:=BQ.o.ex aX;replace a0:=aX.cell a0;replace a1:=aX.cell a1;replace a2:=aX.cell a2;have bA:=Aa aX;clear aX cV;by_cases hc0:CK=0
 rotate_left
 .have hb:(CK !=0)=true:=by simpa using hc0
  have dD:CK=1:=by
   rcases QW p m ml with h|h <;> rw[HC.o]at h
   .exact absurd h hc0
   .exact h
  have HR:=Aa (show ME=CK from by rw[<-bM.o];unfold Mb;rw[if_pos (by rw[HC.o];exact hc0)];exact dD.symm);have cK:=Aa (aL.o CK hc0 HR.o);clear hc0 dD;go_wp2_with fail
  exact bodyPost_ret (v:= .tuple #[.agg #[.slice none 0 0,.slice none 0 0,.int .i64 0],.int .i64 CK]) aq rfl ⟨DS cK.o HR.o,AT (HE.o.trans bA.o) aH.o _ _ _⟩
 subst hc0;obtain⟨pn,mn,rfl,rfl,hf,dV,hF⟩:=(BH p m ml).1 HC.o;have HF:=Aa hf;have dA:2<=pn^mn:=Nat.le_trans hf.p2 (Nat.le_self_pow (by have:=hf.m1;omega) pn);have cZ:=hf.q;have bD:=Aa (show 2<=pn^mn/\pn^mn<=256 from⟨dA,cZ⟩);have bL:=Aa (GF hf);clear hf dV hF dA cZ;by_cases hn1:n<1
 .have HR:=Aa (show ME=4 from by rw[<-bM.o];unfold Mb;rw[if_neg (by rw[HC.o];decide),if_pos (.inl hn1)]);exact zaY
 by_cases hn64:64<n
 .have HR:=Aa (show ME=4 from by rw[<-bM.o];unfold Mb;rw[if_neg (by rw[HC.o];decide),if_pos (.inr hn64)]);exact zaY
 obtain⟨N,rfl⟩:∃N:Nat,n=N:=⟨n.toNat,ac⟩;have HN:=Aa (show 1<=N/\N<=64 from ac);have bC:=Aa (show ME=if 64<N*(pn^mn-1) then 8 else if AU P≠0 then AU P else if P.length≠N*(pn^mn-1) then 10 else if JK pn mn ml N P=false then 5 else 0 from by
  rw[<-bM.o];unfold Mb;rw[if_neg (by rw[HC.o];decide),if_neg ac];rfl)
 have cN:=Aa (show MM=if ME=0 then⟨il N (BW (pn^mn-1) P),il N (Cj (pn^mn-1) P),0⟩ else⟨[], [],0⟩ from cP.o);have bE:=Aa (fun (hk:AU P=0) (hl:P.length=N*(pn^mn-1)) (hb:JK pn mn ml N P=true)=>XL HC.o HN.o.1 HN.o.2 hk hl hb);have cT:=Aa (show JK pn mn ml N P=decide (Fu pn mn ml (il N (BW (pn^mn-1) P)) (il N (Cj (pn^mn-1) P))=P) from rfl);have bS:=Aa (fun (pl sl:List Int) (h:pl.length=N)=>(show Fu pn mn ml pl sl=il (N*(pn^mn-1)) (Jt pn mn ml pl sl) from by unfold Fu;rw[h]));clear cP bM;have bR:=Aa (CJ pn mn (.slice ma ml.length mc));rw[bL.o]at bR;have bT:=Aa (fun (w5:World) (h5:Ex w1 w5) (pl sl:List Int) (u v:Value) (hu:Ak w5 u pl) (hv:Ak w5 v sl) (h1:pl.length=N) (h2:sl.length=N) (h3:Bq pl N=true) (h4:N*(pn^mn-1)<=64)=>Jh w5 HF.o (cM.o.ex h5) N HN.o.2 pl sl u v hu hv h1 h2 h3 h4 0);obtain⟨q,hq⟩:=nA (pn^mn);rw[hq]at bC cN bR bT bD bE cT bS;obtain⟨Q,hQ⟩:=nA (q-1);rw[hQ]at bC cN bT bE cT bS;obtain⟨D,hD⟩:=nA (N*Q);have hDb:D<=20000:=by rw[<-hD];exact Nat.le_trans (Nat.mul_le_mul HN.o.2 (show Q<=255 by have:=bD.o;omega)) ac
 have kQ:(q:Int)-1=(Q:Int):=by have:=bD.o;omega
 have kD:(N:Int)*(Q:Int)=(D:Int):=by rw[<-hD];norm_cast
 rw[hD]at bC bT bE bS;have dO:=Aa hD;have kq:(q:Int)<=256:=by have:=bD.o;omega
 have dU:1<=Q:=by have:=bD.o;omega
 clear hq hQ hD bL;have kn:(N:Int)<=64:=ac;by_cases h8:64<D
 .have dW:(64:Int)<(D:Int):=by omega
  have HR:=Aa (show ME=8 from by rw[bC.o,if_pos h8]);clear h8;go_wp2_with (go_at_call 14;refine(bR.o _).mono ?_;rintro e w5⟨rfl,bG⟩;have bK:=Aa (bA.o.trans bG);clear q0 q1 q2 aE aD aC;obtain⟨q0,q1,q2,aE,aD,aC⟩:=BQ.o.ex bK.o;clear bG)
  exact bodyPost_ret (v:= .tuple #[.agg #[.slice none 0 0,.slice none 0 0,.int .i64 0],.int .i64 8]) aq rfl ⟨DS (aL.o 8 ae HR.o) HR.o,AT (HE.o.trans bK.o) aH.o _ _ _⟩
 have dW:¬(64:Int)<(D:Int):=ac;have eI:=Aa h8;have bB:=Aa (show ME=if AU P≠0 then AU P else if P.length≠D then 10 else if JK pn mn ml N P=false then 5 else 0 from by rw[bC.o,if_neg h8]);have dP:=Aa (fun w5 (h5:Ex w1 w5)=>LZ w5 P _ (HP.o.ex h5));obtain⟨K,hK⟩:=nA (AU P);have HK:=Aa hK;rw[hK]at dP bB;clear h8 bC hK;go_wp2_with (go_at_call 14;refine(bR.o _).mono ?_;rintro e w5⟨rfl,bG⟩;have bK:=Aa (bA.o.trans bG);clear bG)
 refine(dP.o w5 bK.o).mono ?_;rintro e w3⟨rfl,n3,rfl⟩;have aZ:=Aa (bK.o.drewN n3);clear q0 q1 q2 aE aD aC;generalize w5.drewN n3=w3 at *;obtain⟨q0,q1,q2,aE,aD,aC⟩:=BQ.o.ex aZ.o;clear bA;by_cases h0:K=0
 rotate_left
 .have hb:(K !=0)=true:=by simpa using h0
  have HR:=Aa (show ME=K from by rw[bB.o,if_pos h0]);have cK:=Aa (aL.o K h0 HR.o);clear h0;go_wp2_with fail
  exact bodyPost_ret (v:= .tuple #[.agg #[.slice none 0 0,.slice none 0 0,.int .i64 0],.int .i64 K]) aq rfl ⟨DS cK.o HR.o,AT (HE.o.trans aZ.o) aH.o _ _ _⟩
 subst h0;by_cases hl:P.length=D
 rotate_left
 .have hb:((P.length:Int) !=(D:Int))=true:=by simp;omega
  have HR:=Aa (show ME=10 from by rw[bB.o,if_neg ag,if_pos hl]);clear hl;go_wp2_with fail
  exact bodyPost_ret (v:= .tuple #[.agg #[.slice none 0 0,.slice none 0 0,.int .i64 0],.int .i64 10]) aq rfl ⟨DS (aL.o 10 ae HR.o) HR.o,AT (HE.o.trans aZ.o) aH.o _ _ _⟩
 obtain⟨PN,bN⟩:∃n,P.length=n:=⟨_,rfl⟩;have eJ:=Aa bN;rw[bN]at bB P3 bE HP hl ⊢;have aT:=Jn HK.o;rw[bN]at aT;subst hl;have eG:=Aa (show ∀i,i<N->∃X:Nat,P.getD (i*Q) 0=(X:Int)/\i*Q<PN/\X<PN from fun i hi=>by
  have h1:i*Q<PN:=by rw[<-dO.o];exact Nat.mul_lt_mul_of_pos_right hi dU
  obtain⟨h2,h3⟩:=aT (P.getD (i*Q) 0) (List.mem_of_getElem? (Ay ac));exact⟨(P.getD (i*Q) 0).toNat,ac,h1,ac⟩)
 have dM:=Aa (fun i (hi:i<PN)=>Ay (l:=P) (i:=i) ac);have HXQ:=Aa (show ∀X:Nat,X<PN->X/Q<N from fun X hX=>Nat.div_lt_of_lt_mul (by rw[Nat.mul_comm,dO.o];exact hX));have eN:=Aa (fun hb=>bE.o HK.o rfl hb);have cL:=Aa (show ME=if JK pn mn ml N P=false then 5 else 0 from by rw[bB.o,if_neg ag,if_neg ag]);have aW:=Aa (show PN<=64 from by have:=eI.o;omega);clear aT bN bB bE;have kq0:¬(Q:Int)=0:=by omega
 have kq1:¬Q=0:=ac;have kqb:Q<=255:=by have:=bD.o;omega
 have hb:((PN:Int) !=(PN:Int))=false:=ag;obtain⟨B1,cG⟩:∃B,w3.heap.size=B:=⟨_,rfl⟩;have cU:=Aa (E6.new w3 0);rw[cG]at cU;have bW:=Aa cG;clear cG;go_upto_region 15 with fail
 try simp only[bW.o]
 generalize w3.alloc (.cells #[.slice none 0 0,.slice none 0 0,.int .i64 0] 26)=w4 at *;clear q0 q1 q2 aE aD aC a0 a1 a2 hb;have dQ:=Aa (show BX+1<B1 from by have:=aZ.o.size;have:=eE.o;have:=bW.o;omega);go_wp2_with fail
 go_loopw [11] (fun i' wr=>∃(i:Nat) (pv sv:Value),i<=N/\i'= .int .i64 i/\Hia (E6 w3 wr B1 0 pv sv (il i (BW Q P)) (il i (Cj Q P)))) (fun i' _=>N-(intOf i').toNat)
 case atStart=>exact⟨0,_,_,ac,rfl,cU⟩
 case round=>
  clear cU;obtain⟨i,pv,sv,hi,rfl,HC⟩:=hrel;by_cases aA:i<N
  .obtain⟨X,hX,dE,dY⟩:=eG.o i aA;obtain⟨A,hA⟩:=nA (X/Q);obtain⟨R,hR⟩:=nA (X%Q);have eL:=Aa (show il (i+1) (BW Q P)=il i (BW Q P) ++ [(A:Int)] from by rw[IS];unfold BW;rw[hX,<-hA];norm_cast);have eK:=Aa (show il (i+1) (Cj Q P)=il i (Cj Q P) ++ [(R:Int)+1] from by rw[IS];unfold Cj;rw[hX,<-hR];norm_cast);have kd:(X:Int).tdiv (Q:Int)=(A:Int):=by rw[Int.tdiv_eq_ediv_of_nonneg ac,<-hA];norm_cast
   have kr:(X:Int).tmod (Q:Int)=(R:Int):=by rw[Int.tmod_eq_emod_of_nonneg ac,<-hR];norm_cast
   have hAb:A<=64:=by rw[<-hA];exact Nat.le_trans (Nat.div_le_self _ _) (by have:=aW.o;omega)
   have hRb:R<=64:=by rw[<-hR];exact Nat.le_trans (Nat.mod_le _ _) (by have:=aW.o;omega)
   obtain⟨pb,po,rfl,aY⟩:=P3.o ac;have bJ:=aZ.o.cell (aY _ _ (dM.o _ dE));rw[hX]at bJ;have cI:=HC.o.ex.cell bJ;obtain⟨IQ,cE⟩:∃z,i*Q=z:=⟨_,rfl⟩;rw[cE]at cI bJ dE;have eQ:=Aa cI;have eO:=Aa bJ;have kI:(i:Int)*(Q:Int)=(IQ:Int):=by rw[<-cE];norm_cast
   have i1:(0:Int)<=(IQ:Int):=ac;have i2:(IQ:Int)<(PN:Int):=ac;have bU:=Aa (show(il i (BW Q P)).length<=64/\(il i (Cj Q P)).length<=64 from by rw[Aj,Aj];omega);have aI:=Aa HN.o.2;obtain⟨va,vc,rfl⟩:=Ac HC.o.o0;obtain⟨ua,uc,rfl⟩:=Ac HC.o.o1;have HCW:=Aa HC.o.ex;have D0:=Aa HC.o.b0;have cR:=Aa aA;have i3:(i:Int)<=64:=by omega
   clear hX hA hR aY cE aA dY cI bJ;go_upto_region 18 with fail
   go_cut [54] from 54 to 67 (fun _ wx=>∃aN aM,Hia (E6 w3 wx B1 0 (.slice aN (il (i+1) (BW Q P)).length aM) (.slice ua (il i (Cj Q P)).length uc) (il (i+1) (BW Q P)) (il i (Cj Q P))))
   case first=>
    refine DG (fun k=>([.pointer (some ⟨B1,0,none⟩),.slice va (il i (BW Q P)).length vc,.slice (some ⟨pb,po,none⟩) PN pc,.int .i64 (i:Int),.int .i64 (q:Int),.int .i64 (Q:Int),.int .i64 (IQ:Int),.pointer (some ⟨pb,po+IQ,none⟩),.int .i64 (X:Int),.int .i64 (q:Int),.int .i64 (Q:Int),.int .i64 (A:Int),undef,undef,.pointer (some ⟨B1,0,none⟩)]:List Value).getD k undef) 12 13 14 15 (.int .i64 (A:Int)) 3 (fun v w=>∃w1,E6 w3 w1 B1 0 (.slice va (il i (BW Q P)).length vc) (.slice ua (il i (Cj Q P)).length uc) (il i (BW Q P)) (il i (Cj Q P))/\Oz w1 w w3.heap.size 3 1 (.slice va (il i (BW Q P)).length vc) v (il i (BW Q P)).length (Am (il i (BW Q P))) [.int .i64 (A:Int)]) (fun v w=>E6 w3 w B1 0 v (.slice ua (il i (Cj Q P)).length uc) ((il i (BW Q P)) ++ [(A:Int)]) (il i (Cj Q P))) ah ah ah ?_ ?_ ?_ ?_ (fun B v k=>([.pointer (some ⟨B1,0,none⟩),.slice va (il i (BW Q P)).length vc,.slice (some ⟨pb,po,none⟩) PN pc,.int .i64 (i:Int),.int .i64 (q:Int),.int .i64 (Q:Int),.int .i64 (IQ:Int),.pointer (some ⟨pb,po+IQ,none⟩),.int .i64 (X:Int),.int .i64 (q:Int),.int .i64 (Q:Int),.int .i64 (A:Int),.slice (some ⟨B,0,none⟩) 1 1,v,.pointer (some ⟨B1,0,none⟩)]:List Value).getD k undef) (fun _ _=>rfl) ?_
    .simp only[AC];refine⟨?_,?_,?_,?_,?_,?_,?_,?_,?_,?_,?_,?_,?_,?_,?_,?_,trivial⟩
     all_goals first|exact EL.sk ae|refine EL.go ae fun a w T hx K hK=>?_|refine EL.gf ae fun a w T K hK=>?_
     .have cH:=T 10 _ rfl;clear T;go_simp;exact hK _ (.refl w)
     .have e54:=T 54 _ rfl;have q1:=hx.cell D0.o;clear T;go_simp;exact hK _ (.refl w)
     .have e2:=T 2 _ rfl;clear T;go_simp;exact hK _ (.refl w)
     .have dZ:=T 11 _ rfl;clear T;go_simp;exact hK _ (.refl w)
     .exact zaJ
     .have e58:=T 58 _ rfl;exact zbA
     .have e57:=T 57 _ rfl;have e59:=T 59 _ rfl;have k9:IntKind.i64.wrap ((IQ:Int))=(IQ:Int):=IntWalk.i64_in _ ac;clear T;go_simp;exact hK _ (.refl w)
     .have e56:=T 56 _ rfl;have e60:=T 60 _ rfl;clear T;go_simp;exact hK _ (.refl w)
     .have e61:=T 61 _ rfl;have q1:=hx.cell eQ.o;clear T;go_simp;exact hK _ (.refl w)
     .exact zaJ
     .have e63:=T 63 _ rfl;exact zbA
     .have e62:=T 62 _ rfl;have e64:=T 64 _ rfl;have k9:IntKind.i64.wrap ((A:Int))=(A:Int):=IntWalk.i64_in _ ac;clear T;go_simp;exact hK _ (.refl w)
     .have cH:=T 10 _ rfl;clear T;go_simp;exact hK
    .intro o a w1 K ho hx aA hK;injection (show some _=some o from ho) with ho;subst ho;have e65:=aA 11 65 _ ah ae ae ae rfl rfl;clear aA;go_simp;exact hK
    .intro o ob a w1 B8 K ho aQ hx bX cA aA hA;injection (show some _=some o from ho) with ho;subst ho;injection (show some _=some ob from aQ) with aQ;subst aQ;have e1:=Bc (aA 1 55 _ ah ae ae ae rfl rfl);have e2:=Bc (bX 66 rfl);refine BB _ _ 22 rfl w3.heap.size 3 (.int .i64 0) 1 8 Tryz.underlying22 Aw rfl ae (.slice va (il i (BW Q P)).length vc) (il i (BW Q P)).length (Am (il i (BW Q P))) e1 ((HC.o.later hx).o0) _ 1 [.int .i64 (A:Int)] e2 (IA cA) ak (by have:=bU.o.1;have:=aI.o;unfold maxLen;omega) (by have:=bU.o.1;have:=aI.o;omega) ((HC.o.later hx).ex.size) ?_;intro v' w' aO hg ha;exact hA v' w' (⟨w1,HC.o.later hx,⟨aO,hg,ha,(HC.o.later hx).o0⟩⟩)
    .intro o oa of a w1 v K ho aR aP hA h1 h2 hK;injection (show some _=some o from ho) with ho;subst ho;injection (show some _=some oa from aR) with aR;subst aR;injection (show some _=some of from aP) with aP;subst aP;have e1:=h1 67 rfl;have e2:=h2 68 rfl;obtain⟨w2,aS,aF⟩:=hA;obtain⟨g1,g2⟩:=aS.at0g aF;have aB:=aS.app0g aF;obtain⟨aN,aM,rfl⟩:=Ac aF.own;clear aS aF h1 h2;have cS:=Aa aB;clear aB;go_simp;exact hK _ cS.o
    .intro B8 v w1 hF;rw[<-eL.o]at hF;obtain⟨aN,aM,cY⟩:=Ac hF.o0;rw[cY]at hF;have bV:=Aa hF;clear hF cY;simp only[BU,Act.put,List.setIfInBounds_toArray,List.set_cons_zero,List.set_cons_succ];go_wp2_with fail
     go_meet
     exact⟨aN,aM,bV⟩
   case rest=>
    obtain⟨aN,aM,dC⟩:=hcut;have bF:=Aa dC.o;have eP:=Aa (bF.o.ex.cell eO.o);clear dC;have D1:=Aa bF.o.b1;go_upto_region 19 with fail
    refine DG (fun k=>([.pointer (some ⟨B1,1,none⟩),.slice ua (il i (Cj Q P)).length uc,.slice (some ⟨pb,po,none⟩) PN pc,.int .i64 (i:Int),.int .i64 (q:Int),.int .i64 (Q:Int),.int .i64 (IQ:Int),.pointer (some ⟨pb,po+IQ,none⟩),.int .i64 (X:Int),.int .i64 (q:Int),.int .i64 (Q:Int),.int .i64 (R:Int),.int .i64 ((R:Int)+1),undef,undef,.pointer (some ⟨B1,1,none⟩)]:List Value).getD k undef) 13 14 15 16 (.int .i64 ((R:Int)+1)) 3 (fun v w=>∃w1,E6 w3 w1 B1 0 (.slice aN (il (i+1) (BW Q P)).length aM) (.slice ua (il i (Cj Q P)).length uc) (il (i+1) (BW Q P)) (il i (Cj Q P))/\Oz w1 w w3.heap.size 3 1 (.slice ua (il i (Cj Q P)).length uc) v (il i (Cj Q P)).length (Am (il i (Cj Q P))) [.int .i64 ((R:Int)+1)]) (fun v w=>E6 w3 w B1 0 (.slice aN (il (i+1) (BW Q P)).length aM) v (il (i+1) (BW Q P)) ((il i (Cj Q P)) ++ [(R:Int)+1])) ah ah ah ?_ ?_ ?_ ?_ (fun B v k=>([.pointer (some ⟨B1,1,none⟩),.slice ua (il i (Cj Q P)).length uc,.slice (some ⟨pb,po,none⟩) PN pc,.int .i64 (i:Int),.int .i64 (q:Int),.int .i64 (Q:Int),.int .i64 (IQ:Int),.pointer (some ⟨pb,po+IQ,none⟩),.int .i64 (X:Int),.int .i64 (q:Int),.int .i64 (Q:Int),.int .i64 (R:Int),.int .i64 ((R:Int)+1),.slice (some ⟨B,0,none⟩) 1 1,v,.pointer (some ⟨B1,1,none⟩)]:List Value).getD k undef) (fun _ _=>rfl) ?_
    .simp only[AC];refine⟨?_,?_,?_,?_,?_,?_,?_,?_,?_,?_,?_,?_,?_,?_,?_,?_,?_,trivial⟩
     all_goals first|exact EL.sk ae|refine EL.go ae fun a w T hx K hK=>?_|refine EL.gf ae fun a w T K hK=>?_
     .have cH:=T 10 _ rfl;clear T;go_simp;exact hK _ (.refl w)
     .have e69:=T 69 _ rfl;have q1:=hx.cell D1.o;clear T;go_simp;exact hK _ (.refl w)
     .have e2:=T 2 _ rfl;clear T;go_simp;exact hK _ (.refl w)
     .have dZ:=T 11 _ rfl;clear T;go_simp;exact hK _ (.refl w)
     .exact zaJ
     .have e73:=T 73 _ rfl;exact zbA
     .have e72:=T 72 _ rfl;have e74:=T 74 _ rfl;have k9:IntKind.i64.wrap ((IQ:Int))=(IQ:Int):=IntWalk.i64_in _ ac;clear T;go_simp;exact hK _ (.refl w)
     .have e71:=T 71 _ rfl;have e75:=T 75 _ rfl;clear T;go_simp;exact hK _ (.refl w)
     .have e76:=T 76 _ rfl;have q1:=hx.cell eP.o;clear T;go_simp;exact hK _ (.refl w)
     .exact zaJ
     .have e78:=T 78 _ rfl;exact zbA
     .have e77:=T 77 _ rfl;have e79:=T 79 _ rfl;have k9:IntKind.i64.wrap ((R:Int))=(R:Int):=IntWalk.i64_in _ ac;clear T;go_simp;exact hK _ (.refl w)
     .have e80:=T 80 _ rfl;exact zbx
     .have cH:=T 10 _ rfl;clear T;go_simp;exact hK
    .intro o a w1 K ho hx aA hK;injection (show some _=some o from ho) with ho;subst ho;have e81:=aA 12 81 _ ah ae ae ae rfl rfl;clear aA;go_simp;exact hK
    .intro o ob a w1 B8 K ho aQ hx bX cA aA hA;injection (show some _=some o from ho) with ho;subst ho;injection (show some _=some ob from aQ) with aQ;subst aQ;have e1:=Bc (aA 1 70 _ ah ae ae ae rfl rfl);have e2:=Bc (bX 82 rfl);refine BB _ _ 22 rfl w3.heap.size 3 (.int .i64 0) 1 8 Tryz.underlying22 Aw rfl ae (.slice ua (il i (Cj Q P)).length uc) (il i (Cj Q P)).length (Am (il i (Cj Q P))) e1 ((bF.o.later hx).o1) _ 1 [.int .i64 ((R:Int)+1)] e2 (IA cA) ak (by have:=bU.o.2;have:=aI.o;unfold maxLen;omega) (by have:=bU.o.2;have:=aI.o;omega) ((bF.o.later hx).ex.size) ?_;intro v' w' aO hg ha;exact hA v' w' (⟨w1,bF.o.later hx,⟨aO,hg,ha,(bF.o.later hx).o1⟩⟩)
    .intro o oa of a w1 v K ho aR aP hA h1 h2 hK;injection (show some _=some o from ho) with ho;subst ho;injection (show some _=some oa from aR) with aR;subst aR;injection (show some _=some of from aP) with aP;subst aP;have e1:=h1 83 rfl;have e2:=h2 84 rfl;obtain⟨w2,aS,aF⟩:=hA;obtain⟨g1,g2⟩:=aS.at1g aF;have aB:=aS.app1g aF;obtain⟨va7,vc7,rfl⟩:=Ac aF.own;clear aS aF h1 h2;have cS:=Aa aB;clear aB;go_simp;exact hK _ cS.o
    .intro B8 v w1 hF;rw[<-eK.o]at hF;have bV:=Aa hF;clear hF;simp only[BU,Act.put,List.setIfInBounds_toArray,List.set_cons_zero,List.set_cons_succ];go_wp2_with fail
     go_roundw
     case rel=>first|exact⟨i+1,_,_,by have:=cR.o;omega,by go_num,bV⟩|((repeat apply Exists.intro);exact⟨⟨i+1,_,_,by have:=cR.o;omega,by go_num,bV⟩,rfl⟩)
     case measure=>have:=cR.o;simp[intOf];omega
  .obtain rfl:i=N:=by omega
   have m0:=HC.o.b0;have m1:=HC.o.b1;have m2:=HC.o.b2;have bQ:=Aa (show Ak wr pv (il i (BW Q P)) from Sl.own HC.o.o0);have bP:=Aa (show Ak wr sv (il i (Cj Q P)) from Sl.own HC.o.o1);have dI:=Aa HC.o.o0;have dH:=Aa HC.o.o1;obtain⟨va,vc,rfl⟩:=Ac HC.o.o0;obtain⟨ua,uc,rfl⟩:=Ac HC.o.o1;rw[Aj]at bQ m0 dI;rw[Aj]at bP m1 dH;have aG:=Aa (aZ.o.trans HC.o.ex);have dK:=Aa (fun (w5:World) (h5:Ex wr w5)=>(⟨h5.cell m0,h5.cell m1,h5.cell m2⟩:w5.cell? ⟨B1,0,none⟩=some (.slice va i vc)/\w5.cell? ⟨B1,1,none⟩=some (.slice ua i uc)/\w5.cell? ⟨B1,2,none⟩=some (.int .i64 0)));have dR:=Aa (show(∀X,(Value.slice va i vc).ownBlock=some X->X≠BX+1)/\∀X,(Value.slice ua i uc).ownBlock=some X->X≠BX+1 from
    ⟨fun X e=>by have:=(dI.o.lt X e).1;have:=bW.o;have:=dQ.o;omega,fun X e=>by have:=(dH.o.lt X e).1;have:=bW.o;have:=dQ.o;omega⟩)
   have cQ:=Aa (Ic wr pn mn ml _ (cM.o.ex aG.o) (i:Int) _ _ _ _ bQ.o bP.o 0);obtain⟨MS,cC⟩:∃x,Ck pn mn ml i (il i (BW Q P)) (il i (Cj Q P)) 0=x:=⟨_,rfl⟩;rw[cC]at cQ;have dJ:=Aa cC;obtain⟨a0,a1,a2⟩:=dS.o wr aG.o;clear HC cC;go_wp2_with fail
   refine cQ.o.mono ?_;rintro e w6⟨rfl,cX⟩;have aK:=Aa cX;clear a0 a1 a2 m0 m1 m2 cX cQ;obtain⟨q0,q1,q2,aE,aD,aC⟩:=BQ.o.ex (aG.o.trans aK.o);by_cases hms:MS=0
   rotate_left
   .have hb:(MS !=0)=true:=by simpa using hms
    have HR:=Aa (show ME=5 from by
     rw[cL.o]
     cases hfb:JK pn mn ml i P with
     | false=>rfl
     | true=>exact absurd (dJ.o.symm.trans (eN.o hfb)) hms)
    clear hms;go_wp2_with fail
    exact bodyPost_ret (v:= .tuple #[.agg #[.slice none 0 0,.slice none 0 0,.int .i64 0],.int .i64 5]) aq rfl ⟨DS (aL.o 5 ae HR.o) HR.o,AT (HE.o.trans (aG.o.trans aK.o)) aH.o _ _ _⟩
   subst hms;obtain⟨a0,a1,a2⟩:=dS.o w6 (aG.o.trans aK.o);obtain⟨m0,m1,m2⟩:=dK.o w6 aK.o;have eH:=Aa (show Bq (il i (BW Q P)) i=true from(Hj dJ.o).2.2.2.2.2.1);have aU:=Aa (bT.o w6 (aG.o.trans aK.o) _ _ _ _ (bQ.o.ex aK.o) (bP.o.ex aK.o) (Aj _ _) (Aj _ _) eH.o (by have:=aW.o;omega));obtain⟨F,hF⟩:=nA (Jt pn mn ml (il i (BW Q P)) (il i (Cj Q P)));rw[hF]at aU;have dN:=Aa (show JK pn mn ml i P=decide (il PN F=P) from by rw[cT.o,bS.o _ _ (Aj _ _),hF]);clear hF;go_wp2_with fail
   refine aU.o.mono ?_;rintro e w7⟨v7,rfl,dB,cW⟩;have cJ:=Aa (aK.o.trans cW);have eM:=Aa (show Ak w7 v7 (il PN F) from by have h9:=Sl.own dB;unfold Ak;rw[Aj,Ch];exact h9);obtain⟨la,lc,rfl,zl1,dT,l3⟩:=eM.o.open;unfold maxLen at dT;rw[Aj]at l3;have L3:=Aa l3;rw[Aj]at *;clear a0 a1 a2 m0 m1 m2 dB cW aU l3 q0 q1 q2 aE aD aC;obtain⟨W7,cB⟩:∃x,x=w7:=⟨_,rfl⟩;have HW7:=Aa cB;rw[<-cB]at L3 cJ ⊢;clear cB;have dG:=Aa (aG.o.trans cJ.o);go_wp2_with fail
   go_loopw [13] (fun k' wr=>∃k c:Nat,k<=PN/\k'= .int .i64 k/\wr=W7.drewN c/\Hia (∀j,j<k->F j=P.getD j 0)) (fun k' _=>PN-(intOf k').toNat)
   case atStart=>exact⟨0,0,ac,rfl,rfl,Aa (fun j hj=>ac)⟩
   case round=>
    obtain⟨k,c,hk,rfl,rfl,bH⟩:=hrel;have aV:=Aa ((Ex.refl W7).drewN c);by_cases hkn:k<PN
    .obtain⟨lb,lo,rfl,bZ⟩:=L3.o ac;obtain⟨pb,po,rfl,aY⟩:=P3.o ac;obtain⟨y,hy⟩:=nA (F k);obtain⟨x,hx⟩:=nA (P.getD k 0);have c1:=aV.o.cell (bZ k y (by rw[AH hkn,hy]));have c2:=aV.o.cell (dG.o.cell (aY k x (by rw[<-hx];exact dM.o k hkn)));have i1:(0:Int)<=(k:Int):=by omega
     have i2:(k:Int)<(PN:Int):=ac;have dL:=Aa hkn;by_cases hxy:y=x
     .have HA:=Aa (show ∀j,j<k+1->F j=P.getD j 0 from fun j hj=>by
       by_cases e:j=k
       .subst e;rw[hy,hx,hxy]
       .exact bH.o j ac)
      have dX:(y !=x)=false:=by simpa using hxy
      obtain⟨W,hW⟩:=nA (W7.drewN c);rw[hW]at c1 c2 ⊢;have eB:=Aa hW;clear bZ aY hx hy hxy hkn hW;go_wp2_with fail
      go_quiet (fail)
      go_wp2_with fail
      go_roundw
      case rel=>exact⟨k+1,_,by have:=dL.o;omega,by go_num,by rw[<-eB.o,World.drewN_drewN],HA⟩
      case measure=>have:=dL.o;simp[intOf];omega
     .have HR:=Aa (show ME=5 from by
       rw[cL.o,dN.o,decide_eq_false,if_pos rfl];intro e;have:=congrArg (fun l=>l.getD k 0) e
       try simp only at this
       rw[List.getD_eq_getElem?_getD,AH hkn,hx]at this;exact hxy (hy.symm.trans this))
      have dX:(y !=x)=true:=by simpa using hxy
      obtain⟨W,hW⟩:=nA (W7.drewN c);rw[hW]at c1 c2 aV ⊢;have eA:=Aa (dG.o.trans aV.o);clear bZ aY hx hy hxy hkn hW aV;go_wp2_with fail
      go_quiet (fail)
      generalize hW9:W.drewN _=W9;have aJ:=Aa (show Ex w1 W9 from by rw[<-hW9];exact eA.o.drewN _);clear hW9;obtain⟨q0,q1,q2,aE,aD,aC⟩:=BQ.o.ex aJ.o;go_wp2_with fail
      exact bodyPost_ret (v:= .tuple #[.agg #[.slice none 0 0,.slice none 0 0,.int .i64 0],.int .i64 5]) aq rfl ⟨DS (aL.o 5 ae HR.o) HR.o,AT (HE.o.trans aJ.o) aH.o _ _ _⟩
    .obtain rfl:k=PN:=by omega
     have HR:=Aa (show ME=0 from by
      rw[cL.o,dN.o,decide_eq_true,if_neg ae];refine Pp eJ.o fun j hj=>bH.o j hj)
     have HM:=Aa (show MM=⟨il i (BW Q P),il i (Cj Q P),0⟩ from by rw[cN.o,if_pos HR.o]);have aJ:=Aa (cJ.o.trans aV.o);obtain⟨m0,m1,m2⟩:=dK.o _ aJ.o;obtain⟨q0,q1,q2,aE,aD,aC⟩:=BQ.o.ex (aG.o.trans aJ.o);have eC:=Aa (bQ.o.ex aJ.o);have eD:=Aa (bP.o.ex aJ.o);generalize W7.drewN c=W9 at *;clear aV;go_wp2_with fail
     have eF:=HR.o;have cO:=HM.o;subst eF;subst cO;exact bodyPost_ret (v:= .tuple #[.agg #[.slice va i vc,.slice ua i uc,.int .i64 0],.int .i64 0]) aq rfl ⟨⟨_,_,rfl,Dq eC.o (dR.o.1) _ _ _,Dq eD.o (dR.o.2) _ _ _⟩,AT (HE.o.trans (aG.o.trans aJ.o)) aH.o _ _ _⟩
end Go.Proofs.YtehieobniamagaaGreat
