/- Walk of automorphism.Points (printed by gen_pts.py). -/
import Derived.Test.YtehieobniamagaaGreatZd22
namespace Go.Proofs.YtehieobniamagaaGreat
open Go.RowKit
set_option linter.all false
set_option maxRecDepth 100000
set_option maxHeartbeats 8000000
def ptE(p m:Int)(ml pl sl:List Int)(fr:Int):Int:=
 if Ey p m ml pl.length pl sl fr≠0 then Ey p m ml pl.length pl sl fr else if fr≠0 then 5 else if 64<pl.length*(p.toNat^m.toNat-1) then 8 else 0
def ptL(p m:Int)(ml pl sl:List Int)(fr:Int):List Int:=if ptE p m ml pl sl fr=0 then OA p.toNat m.toNat ml pl sl else []
def LeR(L:List Int)(e:Int)(r:Ending)(w':World):Prop:=∃v,r= .returned (.tuple #[v,.int .i64 e])/\Am w' v L
theorem NE{L L':List Int}{e e':Int}{v:Value}{w':World}(h1:L=L')(h2:e=e')(h:Am w' v L):LeR L' e' (.returned (.tuple #[v,.int .i64 e])) w':=by subst h1 h2;exact⟨v,rfl,h⟩
theorem zc2{P:Prop}(h:P:=by
 clear aB aA hd;go_simp;exact hK _ (Ex.refl w)):P:=h
theorem zas{P:Prop}(h:P:=by
 refine BG.on rfl fun L a w aB aA hd hx K hK=>?_;have e31:=aB 6 31 _ (hd ⟨6,.data⟩ (by simp) rfl) rfl rfl;exact zc2):P:=h
theorem zb6{P:Prop}(h:P:=by
 go_wp2_with fail
 go_ret2;exact⟨NE aF.o.symm HR.o.symm (Bj _),HE.o.trans aK.o⟩):P:=h
theorem zcZ{P:Prop}(h:P:=by
 rintro e w5⟨rfl,rfl⟩;exact hK _ (Ex.refl _)):P:=h
theorem RM(w:World)(p m:Int)(ml:List Int)(mv:Value)(aM:Am w mv ml)(pl sl:List Int)(pv sv:Value)(hp:Am w pv pl)(hs:Am w sv sl)(fr:Int):
  Calls Tryz.prog 15 #[.agg #[.int .i64 p,.int .i64 m,mv],.agg #[pv,sv,.int .i64 fr]] w fun r w'=>LeR (ptL p m ml pl sl fr) (ptE p m ml pl sl fr) r w'/\Ex w w':=by
 obtain⟨a0,a1,a2,ea⟩:=He w p m mv;obtain⟨b0,b1,b2,eb⟩:=Bo (w.alloc (.cells #[.int .i64 p,.int .i64 m,mv] 24)) pv sv fr;replace a0:=eb.cell a0;replace a1:=eb.cell a1;replace a2:=eb.cell a2;have HE:=Aa (ea.trans eb);have bD:=Aa (aM.ex HE.o);have HP:=Aa (hp.ex HE.o);have HS:=Aa (hs.ex HE.o);obtain⟨ma,mc,rfl,_,_,_⟩:=aM.open;obtain⟨pa,pc,rfl,_,z2,_⟩:=hp.open;obtain⟨sa,sc,rfl,_,_,_⟩:=hs.open;unfold maxLen at z2;have aY:(w.alloc (.cells #[.int .i64 p,.int .i64 m,.slice ma ml.length mc] 24)).heap.size=w.heap.size+1:=ag;rw[aY]at b0 b1 b2;obtain⟨B,hB⟩:=nA w.heap.size;rw[hB]at a0 a1 a2 b0 b1 b2;obtain⟨E,hE⟩:=nA (Ey p m ml pl.length pl sl fr);obtain⟨bL,aC,aE,bE⟩:=Eq hE (show ptE p m ml pl sl fr=if E≠0 then E else if fr≠0 then 5 else if 64<pl.length*(p.toNat^m.toNat-1) then 8 else 0 from by unfold ptE;rw[hE]) (show ptL p m ml pl sl fr=if ptE p m ml pl sl fr=0 then OA p.toNat m.toNat ml pl sl else [] from rfl) (fun (h:E=0)=>Rb (hE.trans h));obtain⟨PE,aX⟩:∃x,ptE p m ml pl sl fr=x:=⟨_,rfl⟩;obtain⟨PL,aW⟩:∃x,ptL p m ml pl sl fr=x:=⟨_,rfl⟩;rw[aX]at aC aE ⊢;rw[aW]at aE ⊢;have aS:=Aa (fun w1 (h:Ex ((w.alloc (.cells #[.int .i64 p,.int .i64 m,.slice ma ml.length mc] 24)).alloc (.cells #[.slice pa pl.length pc,.slice sa sl.length sc,.int .i64 fr] 26)) w1)=>Rt w1 p m ml _ (bD.o.ex h) pl.length pl sl _ _ (HP.o.ex h) (HS.o.ex h) fr);rw[hE]at aS;clear hE aX aW aM hp hs aY ea eb;have aZ:=Aa b0;go_enter Tryz.func15,Tryz.ntmps15
 go_upto_region 1 with fail
 try simp only[hB]
 clear hB;generalize (w.alloc (.cells #[.int .i64 p,.int .i64 m,.slice ma ml.length mc] 24)).alloc (.cells #[.slice pa pl.length pc,.slice sa sl.length sc,.int .i64 fr] 26)=w1 at *;go_wp2_with fail
 refine(aS.o w1 (Ex.refl _)).mono ?_;rintro e w2⟨rfl,aD⟩;have aK:=Aa aD;replace a0:=aD.cell a0;replace a1:=aD.cell a1;replace a2:=aD.cell a2;replace b0:=aD.cell b0;replace b1:=aD.cell b1;replace b2:=aD.cell b2;clear aD;by_cases h0:E=0
 rotate_left
 .have hb:(E !=0)=true:=by simpa using h0
  have HR:=Aa (show PE=E from by rw[aC.o,if_pos h0]);have aF:=Aa (show PL= [] from by rw[aE.o,if_neg (by rw[HR.o];exact h0)]);clear h0;exact zb6
 .obtain⟨n1,n2,n3,n4,n5,n6,n7,n8,n9,bF⟩:=bE.o h0;subst h0;by_cases hf:fr=0
  rotate_left
  .have hb:(fr !=0)=true:=by simpa using hf
   have HR:=Aa (show PE=5 from by rw[aC.o,if_neg ag,if_pos hf]);have aF:=Aa (show PL= [] from by rw[aE.o,if_neg (by rw[HR.o];decide)]);clear hf;exact zb6
  .subst hf;have bC:=Aa (FM p m ml _ w2 (bD.o.ex aK.o));have bJ:=Aa (show sl.length=pl.length from ac);have aR:=Aa (show pl.length<=64 from ac);go_wp2_with fail
   refine bC.o.mono ?_;rintro e w3⟨bH,aH⟩;rcases bH with⟨pn,mn,x0,gb,rfl,rfl,rfl,hg,x1,x2⟩|⟨hbad,-⟩
   rotate_left
   .exact absurd ((Cg p m ml).1 n1) hbad
   have aJ:=Aa (aK.o.trans aH);replace b0:=aH.cell b0;replace b1:=aH.cell b1;replace b2:=aH.cell b2;have aZ:=Aa b0;have HG:=Aa hg;replace aC:=Aa (show PE=if ((0:Int)≠0) then(0:Int) else if ((0:Int)≠0) then 5 else if 64<pl.length*(pn^mn-1) then 8 else 0 from aC.o);replace aE:=Aa (show PL=if PE=0 then OA pn mn ml pl sl else [] from aE.o);have bG:2<=pn^mn:=Nat.le_trans hg.sh.p2 (Nat.le_self_pow (by have:=hg.sh.m1;omega) pn);have aU:=hg.sh.q;have aI:=aR.o;have aQ:=Aa (fun (w5:World) (h5:Ex w3 w5) (hd:pl.length*(pn^mn-1)<=64)=>Q7 w5 (HG.o.ex h5) pl.length aI pl sl _ _ (HP.o.ex (aJ.o.trans h5)) (HS.o.ex (aJ.o.trans h5)) rfl bJ.o n6 hd 0);have bB:=Aa (fun (w5:World) (h5:Ex w3 w5)=>Cr w5 (HG.o.ex h5));have aL:=Aa (fun (w5:World)=>G5 w5 pl.length (pn^mn) aI ac aU);obtain⟨q,hq⟩:=nA (pn^mn);have aP:=Aa (show OA pn mn ml pl sl=il (pl.length*(pn^mn-1)) (Qy pn mn ml pl sl) from rfl);rw[hq]at aC aQ bB aL aP bG aU;obtain⟨D,hD⟩:=nA (pl.length*(q-1));rw[hD]at aC aQ aL aP;obtain⟨T0,aV⟩:∃z,((if 64<D then 0 else D:Nat):Int)=z:=⟨_,rfl⟩;obtain⟨T1,aN⟩:∃z,(if 64<D then(8:Int) else 0)=z:=⟨_,rfl⟩;rw[aV,aN]at aL;have bA:=Aa aN;clear aV aN hD hq aH hg x1 x2 n1 n2 n3 n4 n5 n6 n7 n8 n9 bF bC bE bL aS;go_wp2_with fail
   go_upto_region 9 with fail
   refine Ca (fun k=>([.pointer (some ⟨B+1,0,none⟩),.slice pa pl.length pc,.int .i64 (pl.length:Int),.pointer (some ⟨gb,0,none⟩),.int .i64 (q:Int),.tuple #[.int .i64 T0,.int .i64 T1],.tuple #[.int .i64 T0,.int .i64 T1],.int .i64 T0,.int .i64 T1,.int .i64 T0,.int .i64 T1]:List Value).getD k undef) ah ah ah ?_ ?_
   .simp only[AL];refine⟨?_,?_,?_,?_,?_,?_,?_,?_,?_,?_,?_,trivial⟩
    .refine BG.on rfl fun L a w aB aA hd hx K hK=>?_;have e3:a.tmps[3]?=some (.pointer (some ⟨B+1,0,none⟩)):=aA 3 ah;exact zc2
    .refine BG.on rfl fun L a w aB aA hd hx K hK=>?_;have e32:=aB 0 32 _ (hd ⟨0,.data⟩ ag rfl) rfl rfl;have c1:=hx.cell aZ.o;exact zc2
    .refine BG.on rfl fun L a w aB aA hd hx K hK=>?_;have e33:=aB 1 33 _ (hd ⟨1,.data⟩ ag rfl) rfl rfl;exact zc2
    .refine BG.on rfl fun L a w aB aA hd hx K hK=>?_;have e7:a.tmps[7]?=some (.pointer (some ⟨gb,0,none⟩)):=aA 7 ah;exact zc2
    .refine BG.on rfl fun L a w aB aA hd hx K hK=>?_;have e35:=aB 3 35 _ (hd ⟨3,.data⟩ ag rfl) rfl rfl;clear aB aA hd;go_simp;refine(bB.o _ hx).mono ?_;exact zcZ
    .refine BG.on rfl fun L a w aB aA hd hx K hK=>?_;have e34:=aB 2 34 _ (hd ⟨2,.data⟩ ag rfl) rfl rfl;have e36:=aB 4 36 _ (hd ⟨4,.data⟩ ag rfl) rfl rfl;clear aB aA hd;go_simp;refine(aL.o _).mono ?_;exact zcZ
    .refine BG.on rfl fun L a w aB aA hd hx K hK=>?_;have e37:=aB 5 37 _ (hd ⟨5,.data⟩ ag rfl) rfl rfl;exact zc2
    .exact zas
    .exact zas
    .refine BG.on rfl fun L a w aB aA hd hx K hK=>?_;have e38:=aB 7 38 _ (hd ⟨7,.data⟩ ag rfl) rfl rfl;exact zc2
    .refine BG.on rfl fun L a w aB aA hd hx K hK=>?_;have e39:=aB 8 39 _ (hd ⟨8,.data⟩ ag rfl) rfl rfl;exact zc2
   .intro w5 aG;simp only[Ck,Act.put,List.setIfInBounds_toArray,List.set_cons_zero,List.set_cons_succ];have aO:=Aa aG;replace b0:=aG.cell b0;replace b1:=aG.cell b1;replace b2:=aG.cell b2;clear aG;by_cases hD:64<D
    .have hT:T1=8:=by rw[<-bA.o,if_pos hD]
     subst hT;have HR:=Aa (show PE=8 from by rw[aC.o,if_neg ag,if_neg ag,if_pos hD]);have aF:=Aa (show PL= [] from by rw[aE.o,if_neg (by rw[HR.o];decide)]);clear hD;go_wp2_with fail
     go_ret2;exact⟨NE aF.o.symm HR.o.symm (Bj _),HE.o.trans (aJ.o.trans aO.o)⟩
    .have hT:T1=0:=by rw[<-bA.o,if_neg hD]
     subst hT;have HR:=Aa (show PE=0 from by rw[aC.o,if_neg ag,if_neg ag,if_neg hD]);have aF:=Aa (show PL=OA pn mn ml pl sl from by rw[aE.o,if_pos HR.o]);have bK:=Aa (aQ.o w5 aO.o ac);clear hD;go_wp2_with fail
     refine bK.o.mono ?_;rintro e w6⟨v,rfl,hv,aT⟩;have HV:=Aa (show Am w6 v PL from by rw[aF.o,aP.o];unfold Am;rw[An,Cf];exact Sl.own hv);have bI:=Aa (aO.o.trans aT);obtain⟨va,vc,rfl⟩:=Ad hv;clear hv aT;go_wp2_with fail
     go_ret2;exact⟨NE rfl HR.o.symm HV.o,HE.o.trans (aJ.o.trans bI.o)⟩
def Zv(p m:Int)(ml:List Int)(n:Int)(P:List Int):Int:=
 if Cp p m ml≠0 then 1 else if n<1∨64<n then 4 else if 64<n.toNat*(p.toNat^m.toNat-1) then 8 else if Cb P≠0 then Cb P else if P.length≠n.toNat*(p.toNat^m.toNat-1) then 10 else if Uf p.toNat m.toNat ml n.toNat P=false then 5 else 0
def mpM(p m:Int)(ml:List Int)(n:Int)(P:List Int):CL:=if Zv p m ml n P=0 then⟨il n.toNat (FS (p.toNat^m.toNat-1) P),il n.toNat (Gi (p.toNat^m.toNat-1) P),0⟩ else⟨[], [],0⟩
theorem Vl{P:List Int}(h:Cb P=0):∀x∈P,0<=x/\x<(P.length:Int):=by
 intro x hx;unfold Cb at h;split at h
 .cases h
 .split at h
  .cases h
  .rename_i h1;have h3:¬(x<0∨(P.length:Int)<=x):=fun h2=>h1 ⟨x,hx,h2⟩;omega
theorem Ks{M:CL}{e e':Int}{w':World}(h1:M=⟨[], [],0⟩)(h2:e=e'):MoR M e (.returned (.tuple #[.agg #[.slice none 0 0,.slice none 0 0,.int .i64 0],.int .i64 e'])) w':=by subst h1 h2;exact⟨_,_,rfl,Bj _,Bj _⟩
theorem zbd{P:Prop}(h:P:=by
 clear HG;go_wp2_with fail
 exact bodyPost_ret (v:= .tuple #[.agg #[.slice none 0 0,.slice none 0 0,.int .i64 0],.int .i64 4]) (by simp[results,Tryz.results17,go_sem,q0,q1,q2]) rfl ⟨Ks (aC.o 4 (by decide) HR.o) HR.o,Ce (HE.o.trans aB.o) aA.o _ _ _⟩):P:=h
theorem ax{P:Prop}(h:P:=by simp[results,Tryz.results17,go_sem,q0,q1,q2]):P:=h
theorem Zl(w:World)(p m:Int)(ml:List Int)(mv:Value)(aR:Am w mv ml)(n:Int)(hn:-9223372036854775808<=n/\n<=9223372036854775807)(P:List Int)(pv:Value)(hp:Am w pv P):
  Calls Tryz.prog 17 #[.agg #[.int .i64 p,.int .i64 m,mv],.int .i64 n,pv] w fun r w'=>MoR (mpM p m ml n P) (Zv p m ml n P) r w'/\Ex w w':=by
 obtain⟨a0,a1,a2,ea⟩:=He w p m mv;obtain⟨BX,aG⟩:∃B,w.heap.size=B:=⟨_,rfl⟩;have bI:(w.alloc (.cells #[.int .i64 p,.int .i64 m,mv] 24)).heap.size=BX+1:=by simp[aG]
 have bq:=ZL.new (w.alloc (.cells #[.int .i64 p,.int .i64 m,mv] 24));rw[bI]at bq;have eb:=(Ex.refl (w.alloc (.cells #[.int .i64 p,.int .i64 m,mv] 24))).alloc (.cells #[.slice none 0 0,.slice none 0 0,.int .i64 0] 26);replace a0:=eb.cell a0;replace a1:=eb.cell a1;replace a2:=eb.cell a2;have HE:=Aa (ea.trans eb);have bY:=Aa (aR.ex HE.o);have HP:=Aa (hp.ex HE.o);obtain⟨ma,mc,rfl,_,_,_⟩:=aR.open;obtain⟨pa,pc,rfl,_,z2,_⟩:=hp.open;unfold maxLen at z2;rw[aG]at a0 a1 a2;have aA:=Aa (show w.heap.size<=BX+1 from ac);have bU:=Aa (show((w.alloc (.cells #[.int .i64 p,.int .i64 m,.slice ma ml.length mc] 24)).alloc (.cells #[.slice none 0 0,.slice none 0 0,.int .i64 0] 26)).heap.size=BX+1+1 from by simp[aG]);have BQ:=Aa bq;obtain⟨ME,aM⟩:∃x,Zv p m ml n P=x:=⟨_,rfl⟩;obtain⟨MM,aS⟩:∃x,mpM p m ml n P=x:=⟨_,rfl⟩;have aK:=Aa aM;have aY:=Aa (show MM=if ME=0 then⟨il n.toNat (FS (p.toNat^m.toNat-1) P),il n.toNat (Gi (p.toNat^m.toNat-1) P),0⟩ else⟨[], [],0⟩ from by rw[<-aS,<-aM];rfl);have aC:=Aa (show ∀e,e≠0->ME=e->MM=⟨[], [],0⟩ from fun e h1 h2=>by rw[aY.o,if_neg (by rw[h2];exact h1)]);rw[aM,aS];clear aM aS aR hp ea eb bq bI;go_enter Tryz.func17,Tryz.ntmps17
 go_upto_region 1 with fail
 try simp only[aG]
 clear aG;generalize (w.alloc (.cells #[.int .i64 p,.int .i64 m,.slice ma ml.length mc] 24)).alloc (.cells #[.slice none 0 0,.slice none 0 0,.int .i64 0] 26)=w1 at *;have bM:=Aa (FM p m ml _ w1 bY.o);go_wp2_with fail
 refine bM.o.mono ?_;rintro e w2⟨bR,aL⟩;obtain⟨q0,q1,q2,aQ,aP,aO⟩:=BQ.o.ex aL;have aB:=Aa aL;rcases bR with⟨pn,mn,x0,gb,rfl,rfl,rfl,hg,x1,x2⟩|⟨hbad,rfl⟩
 rotate_left
 .have HR:=Aa (show ME=1 from by rw[<-aK.o];unfold Zv;rw[if_pos (fun h=>hbad ((Cg p m ml).1 h))]);clear aL hbad;go_wp2_with fail
  exact bodyPost_ret (v:= .tuple #[.agg #[.slice none 0 0,.slice none 0 0,.int .i64 0],.int .i64 1]) ax rfl ⟨Ks (aC.o 1 ae HR.o) HR.o,Ce (HE.o.trans aB.o) aA.o _ _ _⟩
 .have aZ:=Aa (show Cp (pn:Int) mn ml=0 from(Cg _ _ _).2 ⟨pn,mn,rfl,rfl,hg.sh,hg.pr,hg.isF x1 x2⟩);have HG:=Aa hg;have bC:2<=pn^mn:=Nat.le_trans hg.sh.p2 (Nat.le_self_pow (by have:=hg.sh.m1;omega) pn);have bB:=hg.sh.q;have aV:=Aa (show 2<=pn^mn/\pn^mn<=256 from⟨bC,bB⟩);clear hg x1 x2 aL bM bC bB;by_cases hn1:n<1
  .have HR:=Aa (show ME=4 from by rw[<-aK.o];unfold Zv;rw[if_neg (by rw[aZ.o];decide),if_pos (.inl hn1)]);exact zbd
  by_cases hn64:64<n
  .have HR:=Aa (show ME=4 from by rw[<-aK.o];unfold Zv;rw[if_neg (by rw[aZ.o];decide),if_pos (.inr hn64)]);exact zbd
  obtain⟨N,rfl⟩:∃N:Nat,n=N:=⟨n.toNat,ac⟩;have HN:=Aa (show 1<=N/\N<=64 from ac);have aJ:=Aa (show ME=if 64<N*(pn^mn-1) then 8 else if Cb P≠0 then Cb P else if P.length≠N*(pn^mn-1) then 10 else if Uf pn mn ml N P=false then 5 else 0 from by
   rw[<-aK.o];unfold Zv;rw[if_neg (by rw[aZ.o];decide),if_neg ac];rfl)
  have bN:=Aa (show MM=if ME=0 then⟨il N (FS (pn^mn-1) P),il N (Gi (pn^mn-1) P),0⟩ else⟨[], [],0⟩ from aY.o);clear aY aK;obtain⟨q,hq⟩:=nA (pn^mn);have aW:=Aa (Cr w2 HG.o);have aD:=Aa (G5 w2 N (pn^mn) HN.o.2 (by have:=aV.o;omega) aV.o.2);have aN:=Aa (fun (w5:World) (h5:Ex w2 w5) (h1:N*(pn^mn-1)<=64) (h2:P.length=N*(pn^mn-1)) (h3:Cb P=0)=>PM w5 (HG.o.ex h5) N HN.o.1 HN.o.2 P _ (HP.o.ex (aB.o.trans h5)) h1 h2 (Vl h3));rw[hq]at aJ bN aW aD aN aV;obtain⟨D,hD⟩:=nA (N*(q-1));rw[hD]at aJ aD aN;clear hq hD;by_cases h8:64<D
  .rw[if_pos h8,if_pos h8]at aD;have HR:=Aa (show ME=8 from by rw[aJ.o,if_pos h8]);clear h8;go_wp2_with (first|(go_at_call 54;refine aW.o.mono ?_;rintro e w5⟨rfl,rfl⟩)|(go_at_call 53;refine aD.o.mono ?_;rintro e w5⟨rfl,rfl⟩))
   exact bodyPost_ret (v:= .tuple #[.agg #[.slice none 0 0,.slice none 0 0,.int .i64 0],.int .i64 8]) ax rfl ⟨Ks (aC.o 8 ae HR.o) HR.o,Ce (HE.o.trans aB.o) aA.o _ _ _⟩
  rw[if_neg h8,if_neg h8]at aD;have bX:=Aa h8;have aI:=Aa (show ME=if Cb P≠0 then Cb P else if P.length≠D then 10 else if Uf pn mn ml N P=false then 5 else 0 from by rw[aJ.o,if_neg h8]);have bP:=Aa (MY w2 P _ (HP.o.ex aB.o));obtain⟨K,hK⟩:=nA (Cb P);have HK:=Aa hK;rw[hK]at bP aI;clear h8 aJ hK;go_wp2_with (first|(go_at_call 54;refine aW.o.mono ?_;rintro e w5⟨rfl,rfl⟩)|(go_at_call 53;refine aD.o.mono ?_;rintro e w5⟨rfl,rfl⟩))
  refine bP.o.mono ?_;rintro e w3⟨rfl,aE⟩;have aH:=Aa (aB.o.trans aE);obtain⟨q0,q1,q2,aQ,aP,aO⟩:=BQ.o.ex aH.o;by_cases h0:K=0
  rotate_left
  .have hb:(K==0)=false:=by simpa using h0
   have hb2:(K !=0)=true:=by simpa using h0
   have HR:=Aa (show ME=K from by rw[aI.o,if_pos h0]);have bV:=Aa (aC.o K h0 HR.o);clear h0 aE;go_wp2_with fail
   exact bodyPost_ret (v:= .tuple #[.agg #[.slice none 0 0,.slice none 0 0,.int .i64 0],.int .i64 K]) ax rfl ⟨Ks bV.o HR.o,Ce (HE.o.trans aH.o) aA.o _ _ _⟩
  subst h0;by_cases hl:P.length=D
  rotate_left
  .have hb:((P.length:Int) !=(D:Int))=true:=by simp;omega
   have HR:=Aa (show ME=10 from by rw[aI.o,if_neg ag,if_pos hl]);clear hl aE;go_wp2_with fail
   exact bodyPost_ret (v:= .tuple #[.agg #[.slice none 0 0,.slice none 0 0,.int .i64 0],.int .i64 10]) ax rfl ⟨Ks (aC.o 10 ae HR.o) HR.o,Ce (HE.o.trans aH.o) aA.o _ _ _⟩
  have hb:((P.length:Int) !=(D:Int))=false:=aq;have bO:=Aa (aN.o w3 aE (by have:=bX.o;omega) hl HK.o);have aU:=Aa (show ME=if Uf pn mn ml N P=false then 5 else 0 from by rw[aI.o,if_neg ag,if_neg (by rw[hl];simp)]);obtain⟨BE,bH⟩:∃b,Uf pn mn ml N P=b:=⟨_,rfl⟩;rw[bH]at bO aU;clear hl aE aI bH aN;go_wp2_with fail
  refine bO.o.mono ?_;rintro e w4⟨u,v,rfl,hu,hv,⟨bE,bD⟩,bA⟩;obtain⟨bQ,bJ,bL,bK⟩:=Eq (show BX+1<w3.heap.size from by have:=aH.o.size;have:=bU.o;omega) (aH.o.trans bA) bE bD;clear bE bD;obtain⟨q0,q1,q2,aQ,aP,aO⟩:=BQ.o.ex bJ.o;have HU:=Aa hu;have HV:=Aa hv;obtain⟨ua,uc,rfl,_,_,_⟩:=hu.open;obtain⟨va,vc,rfl,_,_,_⟩:=hv.open;obtain⟨TB,aF⟩:∃x,w4.heap.size=x:=⟨_,rfl⟩;obtain⟨LU,bG⟩:∃x,(il N (FS (q-1) P)).length=x:=⟨_,rfl⟩;obtain⟨LV,bF⟩:∃x,(il N (Gi (q-1) P)).length=x:=⟨_,rfl⟩;rw[bG]at HU bL ⊢;rw[bF]at HV bK ⊢;obtain⟨t0,t1,t2,et⟩:=Bo w4 (.slice ua LU uc) (.slice va LV vc) 0;rw[aF]at t0 t1 t2;have aT:=Aa (bJ.o.trans et);obtain⟨q0,q1,q2,aQ,aP,aO⟩:=BQ.o.ex aT.o;have bT:=Aa (HU.o.ex et);have bS:=Aa (HV.o.ex et);have HTB:=Aa aF;clear hu hv bA bG bF et
  cases BE with
  | false=>
   have HR:=Aa (show ME=5 from by rw[aU.o];rfl);go_wp2_with fail
   try simp only[aF]
   exact bodyPost_ret (v:= .tuple #[.agg #[.slice none 0 0,.slice none 0 0,.int .i64 0],.int .i64 5]) ax rfl ⟨Ks (aC.o 5 ae HR.o) HR.o,Ce (HE.o.trans aT.o) aA.o _ _ _⟩
  | true=>
   have HR:=Aa (show ME=0 from by rw[aU.o];rfl);have HM:=Aa (show MM=⟨il N (FS (q-1) P),il N (Gi (q-1) P),0⟩ from by rw[bN.o,if_pos HR.o]);go_upto_region 14 with fail
   try simp only[aF]
   clear aF;generalize w4.alloc (.cells #[.slice ua LU uc,.slice va LV vc,.int .i64 0] 26)=w5 at *;go_wp2_with fail
   have bW:=HR.o;have aX:=HM.o;subst bW;subst aX;exact bodyPost_ret (v:= .tuple #[.agg #[.slice ua LU uc,.slice va LV vc,.int .i64 0],.int .i64 0]) ax rfl ⟨⟨_,_,rfl,Fd bT.o (fun X e=>by have:=bL.o X e;have:=bQ.o;omega) _ _ _,Fd bS.o (fun X e=>by have:=bK.o X e;have:=bQ.o;omega) _ _ _⟩,Ce (HE.o.trans aT.o) aA.o _ _ _⟩
theorem My(w:World)(n q:Nat)(hn:n<=64)(bB:1<=q)(hq:q<=256):
  Calls Tryz.prog 121 #[.int .i64 n,.int .i64 q] w fun r w'=>∃v cs,r= .returned v/\OF w w' v (Dn n q) cs:=by
 obtain⟨bG,bP,bO,HQ,HN⟩:=Of (OF.nil (Ex.refl w)) (NV n q hn hq) (fun i=>Ro q i hq) (show 1<=q/\q<=256 from⟨bB,hq⟩) hn;clear bB hq;go_enter Tryz.func121,Tryz.ntmps121
 go_wp2_with fail
 go_loopw [5,12] (fun v' i' wr=>∃(i:Nat) (cs:List (Value × Value)),i<=n/\i'= .int .i64 i/\Hia (OF w wr v' (gI n q i) cs)) (fun _ i' _=>n-(intOf i').toNat)
 case atStart=>exact⟨0, [],ac,rfl,bG⟩
 case round=>
  clear bG;obtain⟨i,cs,hi,rfl,hg⟩:=hrel;obtain⟨pa,pc,aM⟩:=Ad hg.o.own;subst aM;by_cases hin:i<n
  .obtain⟨GI,aT⟩:∃g,gI n q i=g:=⟨_,rfl⟩;have bM:=Aa (show gI n q (i+1)=GI++gJ q i (n-i) from by rw[NU,aT]);have bD:=Aa (show GI.length<=1048576 from by rw[<-aT];have:=bP.o i;omega);rw[aT]at hg ⊢;obtain⟨LI,aQ⟩:∃l,GI.length=l:=⟨_,rfl⟩;rw[aQ]at bD ⊢;have bJ:=Aa aQ;have HG:=Aa (show OF w wr (.slice pa LI pc) (GI++gJ q i (i-i)) cs from by rw[Nat.sub_self];unfold gJ;rw[List.range_zero,List.flatMap_nil,List.append_nil,<-aQ];exact hg.o);obtain⟨w8,h8⟩:∃w8,w8=wr:=⟨_,rfl⟩;rw[<-h8]at HG ⊢;have aW:=Aa hin;clear h8 hg aT aQ;go_wp2_with fail
   clear hin
   go_loopw [5,7] (fun v' j' wr=>∃(j:Nat) (cs:List (Value × Value)),i<=j/\j<=n/\j'= .int .i64 j/\Hia (OF w wr v' (GI++gJ q i (j-i)) cs)) (fun _ j' _=>n-(intOf j').toNat)
   case atStart=>exact⟨i,cs,ac,ac,rfl,HG⟩
   case round=>
    clear HG;obtain⟨j,cs,hj1,hj2,rfl,hg⟩:=hrel;obtain⟨pa,pc,aM⟩:=Ad hg.o.own;subst aM;by_cases hjn:j<n
    .obtain⟨GJ,aS⟩:∃g,GI++gJ q i (j-i)=g:=⟨_,rfl⟩;have bL:=Aa (show GI++gJ q i (j+1-i)=GJ++gA i j (q-1) from by rw[<-aS,show j+1-i=j-i+1 from ac,NR,show i+(j-i)=j from ac,List.append_assoc]);have bC:=Aa (show GJ.length<=1100000 from by rw[<-aS,List.length_append];have:=bO.o i (j-i);have:=bD.o;have:=bJ.o;have:=HN.o;omega);rw[aS]at hg ⊢;obtain⟨LJ,aP⟩:∃l,GJ.length=l:=⟨_,rfl⟩;rw[aP]at bC ⊢;have bK:=Aa aP;have HG:=Aa (show OF w wr (.slice pa LJ pc) (GJ++gA i j (1-1)) cs from by unfold gA;rw[Nat.sub_self,List.range_zero,List.map_nil,List.append_nil,<-aP];exact hg.o);obtain⟨w7,h7⟩:∃w7,w7=wr:=⟨_,rfl⟩;rw[<-h7]at HG ⊢;have bA:=Aa hjn;clear h7 hg aS aP;go_wp2_with fail
     clear hjn
     go_loopw [5,8] (fun v' a' wr=>∃(a:Nat) (cs:List (Value × Value)),1<=a/\a<=q/\a'= .int .i64 a/\Hia (OF w wr v' (GJ++gA i j (a-1)) cs)) (fun _ a' _=>q-(intOf a').toNat)
     case atStart=>exact⟨1,cs,ac,HQ.o.1,rfl,HG⟩
     case round=>
      clear HG;obtain⟨a,cs,ha1,ha2,rfl,hg⟩:=hrel;obtain⟨pa,pc,aM⟩:=Ad hg.o.own;subst aM;by_cases han:a<q
      .obtain⟨GA,aU⟩:∃g,GJ++gA i j (a-1)=g:=⟨_,rfl⟩;have bN:=Aa (show GJ++gA i j (a+1-1)=GA ++ [⟨i,j,a⟩] from by
        rw[<-aU,show a+1-1=a-1+1 from ac,YO,show a-1+1=a from ac,List.append_assoc])
       have aZ:=Aa (show GA.length<=1200000 from by rw[<-aU,List.length_append,Rp];have:=bC.o;have:=bK.o;have:=HQ.o;omega);rw[aU]at hg ⊢;obtain⟨LA,aR⟩:∃l,GA.length=l:=⟨_,rfl⟩;have bE:=Aa aR;rw[aR]at aZ ⊢;obtain⟨HG,aV,aD,aX⟩:=Eq (show OF w wr (.slice pa LA pc) GA cs from by rw[<-aR];exact hg.o) (MV.new wr i j a) (show i<=64 from by have:=aW.o;have:=HN.o;omega) han;obtain⟨w5,h5⟩:∃w5,w5=wr:=⟨_,rfl⟩;rw[<-h5]at HG aV ⊢;clear h5 hg aU aR;go_upto_region 12 with fail
       clear han;obtain⟨XB,aO⟩:∃x,w5.heap.size=x:=⟨_,rfl⟩;rw[aO]at aV
       try simp only[aO]
       have HXB:=Aa aO;clear aO;generalize w5.alloc (.cells #[.int .i64 i,.int .i64 j,.int .i64 a,.slice none 0 0,.slice none 0 0] 129)=w6 at *;go_wp2_with fail
       go_loopw [31] (fun k' wr=>∃(k:Nat) (pv sv:Value),k<=i/\k'= .int .i64 k/\Hia (MV w5 wr XB i j a pv sv (KJ k) (Lk k))) (fun k' _=>i-(intOf k').toNat)
       case atStart=>exact⟨0,_,_,ac,rfl,aV⟩
       case round=>
        clear aV;obtain⟨k,pv,sv,hk,rfl,HC⟩:=hrel;obtain⟨va,vc,rfl⟩:=Ad HC.o.o0;obtain⟨ua,uc,rfl⟩:=Ad HC.o.o1;rw[FG,Fz]at *;have c3:=HC.o.b0;by_cases hki:k<i
        .have aY:=Aa (show wr.ownsRow w5.heap.size 3 1 (.slice va k vc) k (Ao (KJ k)) from by have:=HC.o.o0;rwa[FG]at this);have bF:=Aa hki;go_wp2_with (at_builtin;refine Al _ rfl _ _ 22 rfl w5.heap.size 3 (.int .i64 0) 1 8 Tryz.underlying22 AA rfl ae _ k (Ao (KJ k)) rfl aY.o [.int .i64 (k:Int)] 3 _ rfl ag rfl aj (by have:=aD.o;unfold maxLen;omega) (by have:=aD.o;omega) HC.o.ex.size ?_)
         intro v7 w7 aC;have aA:Bn wr w7 w5.heap.size 3 1 (.slice va k vc) v7 (KJ k).length (Ao (KJ k)) [.int .i64 (k:Int)]:=by rw[FG];exact aC
         obtain⟨g1,g2⟩:=HC.o.at0 aA;have aB:=HC.o.app0 aA;rw[<-V4]at aB;obtain⟨aI,aH,rfl⟩:=Ad aC.own;have aF:=Aa aB;have aL:=Aa (show(w7.setCell ⟨XB,3,none⟩ (.slice aI (k+1) aH)).ownsRow w5.heap.size 3 1 (.slice ua k uc) k (Ao (Lk k)) from by have:=aF.o.o1;rwa[Fz]at this);have c4:=aF.o.b1;clear aC aA aB c3;go_wp2_with (at_builtin;refine Al _ rfl _ _ 22 rfl w5.heap.size 3 (.int .i64 0) 1 8 Tryz.underlying22 AA rfl ae _ k (Ao (Lk k)) rfl aL.o [.int .i64 1] 3 _ rfl ag rfl aj (by have:=aD.o;unfold maxLen;omega) (by have:=aD.o;omega) aF.o.ex.size ?_)
         intro v8 w8 aC;have aA:Bn (w7.setCell ⟨XB,3,none⟩ (.slice aI (k+1) aH)) w8 w5.heap.size 3 1 (.slice ua k uc) v8 (Lk k).length (Ao (Lk k)) [.int .i64 1]:=by rw[Fz];exact aC
         obtain⟨h1,h2⟩:=aF.o.at1 aA;have aB:=aF.o.app1 aA;rw[<-Vr]at aB;obtain⟨aK,aJ,rfl⟩:=Ad aC.own;have aE:=Aa aB;clear aC aA aB c4 g1 g2;go_wp2_with fail
         go_roundw
         case rel=>first|exact⟨k+1,_,_,ac,by go_num,aE⟩|((repeat apply Exists.intro);exact⟨⟨k+1,_,_,by have:=bF.o;omega,by go_num,aE⟩,rfl⟩)
         case measure=>have:=bF.o;simp[intOf];omega
        .obtain rfl:i=k:=by omega
         have aY:=Aa (show wr.ownsRow w5.heap.size 3 1 (.slice va i vc) i (Ao (KJ i)) from by have:=HC.o.o0;rwa[FG]at this);go_wp2_with (at_builtin;refine Al _ rfl _ _ 22 rfl w5.heap.size 3 (.int .i64 0) 1 8 Tryz.underlying22 AA rfl ae _ i (Ao (KJ i)) rfl aY.o [.int .i64 (j:Int)] 3 _ rfl ag rfl aj (by have:=aD.o;unfold maxLen;omega) (by have:=aD.o;omega) HC.o.ex.size ?_)
         intro v7 w7 aC;have aA:Bn wr w7 w5.heap.size 3 1 (.slice va i vc) v7 (KJ i).length (Ao (KJ i)) [.int .i64 (j:Int)]:=by rw[FG];exact aC
         obtain⟨g1,g2⟩:=HC.o.at0 aA;have aB:=HC.o.app0 aA;obtain⟨aI,aH,rfl⟩:=Ad aC.own;have aF:=Aa aB;have aL:=Aa (show(w7.setCell ⟨XB,3,none⟩ (.slice aI (i+1) aH)).ownsRow w5.heap.size 3 1 (.slice ua i uc) i (Ao (Lk i)) from by have:=aF.o.o1;rwa[Fz]at this);have c4:=aF.o.b1;clear aC aA aB c3;go_wp2_with (at_builtin;refine Al _ rfl _ _ 22 rfl w5.heap.size 3 (.int .i64 0) 1 8 Tryz.underlying22 AA rfl ae _ i (Ao (Lk i)) rfl aL.o [.int .i64 (a:Int)] 3 _ rfl ag rfl aj (by have:=aD.o;unfold maxLen;omega) (by have:=aD.o;omega) aF.o.ex.size ?_)
         intro v8 w8 aC;have aA:Bn (w7.setCell ⟨XB,3,none⟩ (.slice aI (i+1) aH)) w8 w5.heap.size 3 1 (.slice ua i uc) v8 (Lk i).length (Ao (Lk i)) [.int .i64 (a:Int)]:=by rw[Fz];exact aC
         obtain⟨h1,h2⟩:=aF.o.at1 aA;have aB:=aF.o.app1 aA;obtain⟨aK,aJ,rfl⟩:=Ad aC.own;have aE:=Aa (show MV w5 (w8.setCell ⟨XB,4,none⟩ (.slice aK (i+1) aJ)) XB i j a (.slice aI (i+1) aH) (.slice aK (i+1) aJ) (B6.tl ⟨i,j,a⟩) (B6.sl ⟨i,j,a⟩) from aB);clear aC aA aB c4 g1 g2;have bI:=Aa (show(w8.setCell ⟨XB,4,none⟩ (.slice aK (i+1) aJ)).ownsRow w.heap.size 129 5 (.slice pa LA pc) LA (Fq GA cs) from by have:=Aj HG.o.own aE.o.ex;rwa[bE.o]at this);have bH:=Aa (HG.o.later aE.o.ex).ex.size;have d0:=aE.o.c0;have d1:=aE.o.c1;have d2:=aE.o.c2;have d3:=aE.o.b0;have d4:=aE.o.b1;go_wp2_with (at_builtin;refine Al _ rfl _ _ 109 rfl w.heap.size 129 (.agg #[.int .i64 0,.int .i64 0,.int .i64 0,.slice none 0 0,.slice none 0 0]) 5 72 Tryz.underlying109 PD rfl ae _ LA (Fq GA cs) rfl bI.o [.int .i64 (i:Int),.int .i64 (j:Int),.int .i64 (a:Int),.slice aI (i+1) aH,.slice aK (i+1) aJ] 129 _ rfl ag rfl aj (by have:=aZ.o;unfold maxLen;omega) (by have:=aZ.o;omega) bH.o ?_)
         intro v9 w9 aC;have aA:Bn (w8.setCell ⟨XB,4,none⟩ (.slice aK (i+1) aJ)) w9 w.heap.size 129 5 (.slice pa LA pc) v9 GA.length (Fq GA cs) [.int .i64 (i:Int),.int .i64 (j:Int),.int .i64 (a:Int),.slice aI (i+1) aH,.slice aK (i+1) aJ]:=by rw[bE.o];exact aC
         have aG:=Aa ((HG.o.later aE.o.ex).app (g:=⟨i,j,a⟩) aE.o (fun X e=>(HG.o.own.lt X e).2) HG.o.ex.size aA);rw[<-bN.o]at aG;obtain⟨pa9,pc9,rfl⟩:=Ad aC.own;have hab:a<=256:=by have:=aX.o;have:=HQ.o;omega
         clear aC aA d0 d1 d2 d3 d4 h1 h2;go_wp2_with fail
         go_roundw
         case rel=>first|exact⟨a+1,_,ac,by have:=aX.o;omega,by go_num,aG⟩|((repeat apply Exists.intro);exact⟨⟨a+1,_,ac,by have:=aX.o;omega,by go_num,aG⟩,rfl⟩)
         case measure=>have:=aX.o;simp[intOf];omega
      .obtain rfl:q=a:=by omega
       obtain⟨LX,aN⟩:∃x,(GJ++gA i j (q-1)).length=x:=⟨_,rfl⟩;rw[aN]at hg ⊢;rw[<-bL.o]at hg;clear aN;have aG:=Aa hg.o;clear hg;go_wp2_with fail
       go_roundw
       case rel=>first|exact⟨j+1,cs,ac,by have:=bA.o;omega,by go_num,aG⟩|((repeat apply Exists.intro);exact⟨⟨j+1,cs,ac,by have:=bA.o;omega,by go_num,aG⟩,rfl⟩)
       case measure=>have:=bA.o;simp[intOf];omega
    .obtain rfl:n=j:=by omega
     obtain⟨LX,aN⟩:∃x,(GI++gJ q i (n-i)).length=x:=⟨_,rfl⟩;rw[aN]at hg ⊢;rw[<-bM.o]at hg;clear aN;have aG:=Aa hg.o;clear hg;go_wp2_with fail
     go_roundw
     case rel=>first|exact⟨i+1,cs,by have:=aW.o;omega,by go_num,aG⟩|((repeat apply Exists.intro);exact⟨⟨i+1,cs,by have:=aW.o;omega,by go_num,aG⟩,rfl⟩)
     case measure=>have:=aW.o;simp[intOf];omega
  .obtain rfl:n=i:=by omega
   go_wp2_with fail
   go_ret;exact⟨_,cs,rfl,hg.o⟩
theorem WC{n:Nat}{R:Nat->Nat->Option (Nat->Nat)}{k c:Nat}{p r:Nat->Nat}(h:R c (CN (R c) p c n)=some r):Ta n R (k+1) c p=Ta n R k (c+1) (Ar r p):=by
 show Ta n R k (c+1) (Ar ((R c (CN (R c) p c n)).getD EN) p)=_
 rw[h];rfl
theorem Qg{R:Nat->Option (Nat->Nat)}{p:Nat->Nat}{c n:Nat}(hc:c<n):∀x,x<=n->CN R p c x<n
 | 0,_=>hc
 | x+1,h=>by
  unfold CN;split
  .omega
  .exact Qg hc x (by omega)
theorem zbo{P:Prop}(h:P:=by
 go_wp2_with fail
 go_quiet (fail)
 go_wp2_with fail
 go_roundw
 case rel=>exact⟨x+1,_,by omega,by go_num,by rw[aE.o],by rw[<-aJ.o,World.drewN_drewN]⟩
 case measure=>simp[intOf];omega):P:=h
theorem zbl{P:Prop}(h:P:=by
 clear aA hR hV hlt;exact zbo):P:=h
theorem Pd(w:World){base n tb rb gb:Nat}{rr:Nat->Nat}{gv:Nat->Value}{V:Nat->Nat->Value}{mb:List Nat}{t:Tw}(hm:RJ w base n tb rb gb rr gv V mb t)(hG:CQ n t)(hn1:1<=n)(hn:n<=64)
  (u:Value) (f:Nat->Nat) (b:Nat) (hb:b<n) (hu:Am w u (li n f)) (hP:Bw n f):
  Calls Tryz.prog 211 #[.pointer (some ⟨tb,0,none⟩),u,.int .i64 b] w fun r w'=>∃v,r= .returned v/\Am w' v (li n (Ta n t.R (n-(b+1)) (b+1) f))/\(v=u∨∃g cap,v= .slice (some ⟨g,0,none⟩) n cap/\w.heap.size<=g)/\Ex w w':=by
 obtain⟨HM,HG,HU,HP⟩:=Eq hm hG hu hP;obtain⟨ua,uc,rfl,_,_,_⟩:=E9 hu;obtain⟨E,hE⟩:=nA (Ta n t.R (n-(b+1)) (b+1) f);have HE:=Aa hE;rw[hE];clear hm hG hu hP hE;go_enter Tryz.func211,Tryz.ntmps211
 go_wp2_with fail
 go_loopw [1,7] (fun p' c' wr=>∃(c:Nat) (h:Nat->Nat) (a:Option Addr) (cap:Nat),c<=n/\c'= .int .i64 c/\p'= .slice a n cap/\Hia (Am wr (.slice a n cap) (li n h))/\Hia (Bw n h)/\Hia (Ta n t.R (n-c) c h=E)/\Hia (Value.slice a n cap= .slice ua n uc∨∃g aI,Value.slice a n cap= .slice (some ⟨g,0,none⟩) n aI/\w.heap.size<=g)/\Hia (Ex w wr)) (fun _ c' _=>n-(intOf c').toNat)
 case atStart=>exact⟨b+1,f,ua,uc,ac,by go_num,rfl,HU,HP,HE,Aa (.inl rfl),Aa (Ex.refl _)⟩
 case round=>
  clear HU HP HE;obtain⟨c,h,a,cap,hc,rfl,rfl,hu,hp,he,aM,hx⟩:=hrel;have c0:=hx.o.cell HM.o.c0;have c1:=hx.o.cell HM.o.c1;by_cases hcn:c<n
  .obtain⟨pb,po,rfl,_,aL⟩:=Fn hu.o ac;have aS:=Aa aL;have d2:=hx.o.cell (HM.o.ro c hcn);have D2:=Aa d2;have C1:=Aa c1;have i1:(0:Int)<=(c:Int):=by omega
   have i2:(c:Int)<(n:Int):=ac;clear aL;go_wp2_with fail
   go_loopw [8,30] (fun m' x' w2=>∃(x q:Nat),x<=n/\x'= .int .i64 x/\m'= .int .i64 (CN (t.R c) h c x:Int)/\w2=wr.drewN q) (fun _ x' _=>n-(intOf x').toNat)
   case atStart=>exact⟨0,0,ac,rfl,rfl,rfl⟩
   case round=>
    clear c0 c1 d2;obtain⟨x,q,aW,rfl,rfl,rfl⟩:=hrel;have aG:=Aa (Qg (R:=t.R c) (p:=h) hcn x aW);by_cases hxn:x<n
    .have EQ:=Aa ((Ex.refl wr).drewN q);have d3:=EQ.o.cell (hx.o.cell ((HM.o.row c hcn).cell hxn));have aA:=HM.o.rep c x hcn hxn;have aN:CN (t.R c) h c (x+1)=if (t.R c x).isSome=true/\h x<h (CN (t.R c) h c x) then x else CN (t.R c) h c x:=rfl;have aC:=Aa aN;obtain⟨m,hm⟩:=nA (CN (t.R c) h c x);rw[hm]at aG aC ⊢;have aF:m<n:=aG.o;have d4:=EQ.o.cell (aS.o x hxn);have d5:=EQ.o.cell (aS.o m aF);have i3:(0:Int)<=(x:Int):=by omega
     have i4:(x:Int)<(n:Int):=ac;have i5:(0:Int)<=(m:Int):=ac;have i6:(m:Int)<(n:Int):=ac;obtain⟨W,hW⟩:=nA (wr.drewN q);rw[hW]at d3 d4 d5 ⊢;have aJ:=Aa hW;clear aN hm hW
     cases hR:t.R c x with
     | none=>
      rw[hR]at aA aC;have aA:V c x= .slice none 0 0:=aA;rw[aA]at d3;have aE:=Aa (show CN (t.R c) h c (x+1)=m from by rw[aC.o,if_neg ag]);clear aA hR;exact zbo
     | some r=>
      rw[hR]at aA aC;have aA:Cv w mb n (V c x) r:=aA;obtain⟨vb,vo,vc,hV,_,_,_,_⟩:=aA.at_;rw[hV]at d3;by_cases hlt:h x<h m
      .have aE:=Aa (show CN (t.R c) h c (x+1)=x from by rw[aC.o,if_pos ⟨rfl,hlt⟩]);have b1:decide ((h x:Int)<(h m:Int))=true:=by simp;omega
       have b2:decide (h x<h m)=true:=by simpa using hlt
       exact zbl
      .have aE:=Aa (show CN (t.R c) h c (x+1)=m from by rw[aC.o,if_neg (fun e=>hlt e.2)]);have b1:decide ((h x:Int)<(h m:Int))=false:=by simp;omega
       have b2:decide (h x<h m)=false:=by simpa using hlt
       exact zbl
    .obtain rfl:x=n:=by omega
     have aD:=HG.o.one c hcn;obtain⟨aO,_,_⟩:=Gm (R:=t.R c) (p:=h) (c:=c) (by rw[aD];rfl) x;obtain⟨r,hr⟩:=Option.isSome_iff_exists.1 aO;obtain⟨m,hm⟩:=nA (CN (t.R c) h c x);have aV:=Aa (show Ta x t.R (x-(c+1)) (c+1) (Ar r h)=E from by
      rw[<-he.o,show x-c=x-(c+1)+1 by omega,WC hr])
     rw[hm]at hr aG ⊢;have aF:m<x:=aG.o;have aA:=HM.o.rep c m hcn aF;rw[hr]at aA;have aA:Cv w mb x (V c m) r:=aA;obtain⟨_,_,aH,_,_⟩:=HG.o.rep _ _ _ hr;obtain⟨vb,vo,vc,hV,_,_,_,_⟩:=aA.at_;have EQ:=Aa ((Ex.refl wr).drewN q);have d3:=EQ.o.cell (hx.o.cell ((HM.o.row c hcn).cell aF));have d4:=EQ.o.cell D2.o;have c1:=EQ.o.cell C1.o;rw[hV]at d3;have aR:=Aa (aA.ex (hx.o.trans EQ.o)).sl;rw[hV]at aR;have aY:=Aa (F5 (wr.drewN q) x r h _ _ aR.o (hu.o.ex EQ.o) ac aH.lt);have aQ:=Aa (aH.comp hp.o);have i5:(0:Int)<=(m:Int):=br;have i6:(m:Int)<(x:Int):=ac;have aZ:=Aa (hx.o.trans EQ.o).size;clear aA hr hV aO aD aH he hm;go_wp2_with (go_at_call 108;refine aY.o.mono ?_;rintro e w3⟨g3,rfl,aB,aK⟩;have aT:=Aa aB.li;have aP:=Aa (hx.o.trans (EQ.o.trans aK));have aU:=Aa (Nat.le_trans aZ.o aB.lt.1);clear aB aK)
     go_roundw
     case rel=>first|exact⟨c+1,Ar r h,some ⟨g3,0,none⟩,x,ac,by go_num,rfl,aT,aQ,aV,Aa (.inr ⟨g3,x,rfl,aU.o⟩),aP⟩|((repeat apply Exists.intro);exact⟨⟨c+1,Ar r h,some ⟨g3,0,none⟩,x,ac,by go_num,rfl,aT,aQ,aV,Aa (.inr ⟨g3,x,rfl,aU.o⟩),aP⟩,rfl⟩)
     case measure=>simp[intOf];omega
  .obtain rfl:c=n:=by omega
   have bB:=Aa (show h=E from by rw[<-he.o,Nat.sub_self];rfl);have aX:=Aa hu.o;have bA:=Aa aM.o;clear he hu aM;go_wp2_with fail
   go_ret;refine⟨.slice a c cap,rfl,by rw[<-bB.o];exact aX.o,bA.o,hx.o⟩
end Go.Proofs.YtehieobniamagaaGreat
