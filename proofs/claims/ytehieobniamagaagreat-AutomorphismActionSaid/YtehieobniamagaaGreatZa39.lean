/- Walk of AutomorphismAction (printed by gen_act.py). -/
import Derived.Test.YtehieobniamagaaGreatZa38
namespace Go.Proofs.YtehieobniamagaaGreat
set_option linter.all false
set_option maxRecDepth 100000
set_option maxHeartbeats 16000000
open Go.RowKit
theorem Uo{n:Nat}{f g:Nat->Nat}(h1:1<=n)(h2:n<=64)(hf:A7 n f)(hg:A7 n g):GP [li n f,li n g]=(li n (An f g),0):=by
 have ha:Iw ((([li n f,li n g]:List (List Int)).getD 0 []).length:Nat) [li n f,li n g]=0:=by
  have hl:(([li n f,li n g]:List (List Int)).getD 0 []).length=n:=CM n f;rw[hl];rw[FR fun j s hs=>by
   match j,hs with
   | 0,hs=>simp at hs;subst hs;exact LQ h1 h2 hf
   | 1,hs=>simp at hs;subst hs;exact LQ h1 h2 hg
   | j+2,hs=>simp at hs]
  rw[if_neg];rintro⟨r,hr,h⟩;simp at hr;rcases hr with e|e <;> rw[e,CM]at h <;> exact h rfl
 unfold GP;rw[if_neg ag,ha,if_neg ae];have hl:(([li n f,li n g]:List (List Int)).getD 0 []).length=n:=CM n f;rw[hl];show(P6 (P6 (Sq n) (li n f)) (li n g),(0:Int))=_
 unfold Sq;rw[Lr (f:=DY) (g:=f) (fun i hi=>hi),Lr (f:=An DY f) (g:=g) (fun i hi=>hf.lt i hi)];rfl
theorem O6{p m:Int}{ml pl sl:List Int}(h1:BF p m ml pl.length pl sl 0=0)(hd:pl.length*(p.toNat^m.toNat-1)<=64):OC p m ml pl sl 0=0/\OA p m ml pl sl 0=L3 p.toNat m.toNat ml pl sl:=by
 have h:OC p m ml pl sl 0=0:=by
  unfold OC;rw[if_neg (by rw[h1];simp),if_neg ag,if_neg ac]
 exact⟨h,by unfold OA;rw[if_pos h]⟩
theorem Ws{p m:Int}{ml pl sl ql tl:List Int}(h1:BF p m ml pl.length pl sl 0=0)(h2:BF p m ml pl.length ql tl 0=0)(hl:ql.length=pl.length)(hd:pl.length*(p.toNat^m.toNat-1)<=64):
  N9 p m ml pl sl 0 ql tl 0=0/\∃C1 C2,Pz p m ml pl sl 0 ql tl 0=⟨C1,C2,0⟩/\OC p m ml C1 C2 0=0/\OC p m ml pl sl 0=0/\OC p m ml ql tl 0=0/\GP [OA p m ml pl sl 0,OA p m ml ql tl 0]=(OA p m ml C1 C2 0,0):=by
 obtain⟨pn,mn,N,fn,rfl,rfl,e3,e4,hf,hc,hM⟩:=Fm h1;obtain⟨pn2,mn2,N2,aD,g1,g2,g3,g4,hf2,hc2,hK⟩:=Fm h2;obtain rfl:pn=pn2:=ac;obtain rfl:mn=mn2:=ac;obtain rfl:fn=0:=ac;obtain rfl:aD=0:=ac;obtain rfl:N=pl.length:=ac;obtain rfl:N2=pl.length:=ac;obtain⟨_,_,_,_,_,n6,_⟩:=Gi h1;obtain⟨_,_,_,_,_,k6,_⟩:=Gi h2;simp only[Int.toNat_natCast]at hd;have aA:∀i,i<pl.length->0<=ql.getD i 0:=fun i hi=>(Dd k6 (i:=i) ac).1;have hC:=ZM (Un hM hK);have hE:N9 pn mn ml pl sl 0 ql tl 0=0:=by
  unfold N9;rw[if_neg (by rw[h1];simp),hl,if_neg (by rw[h2];simp),if_neg ag]
 have aC:Pz pn mn ml pl sl 0 ql tl 0=⟨il pl.length (cP pl ql),il pl.length (cS pn mn ml pl sl tl 0),0⟩:=by
  unfold Pz;rw[if_neg (by rw[hE];simp)];simp
 have aB:=Xs hc hC (XU hM aA);have p1:=O6 h1 (by simpa only[Int.toNat_natCast]using hd);have p2:=O6 (p:=pn) (m:=mn) (ml:=ml) (pl:=ql) (sl:=tl) (by rw[hl];exact h2) (by rw[hl];simpa only[Int.toNat_natCast]using hd);have p3:=O6 (p:=pn) (m:=mn) (ml:=ml) (pl:=il pl.length (cP pl ql)) (sl:=il pl.length (cS pn mn ml pl sl tl 0)) (by rw[Am];exact aB) (by rw[Am];simpa only[Int.toNat_natCast]using hd);refine⟨hE,_,_,aC,p3.1,p1.1,p2.1,?_⟩;rw[p1.2,p2.2,p3.2];simp only[Int.toNat_natCast];rw[<-O5 hM,<-O5 hK,<-O5 hC,Vp hM hK];have hq:=Bw hM.hp hM.hm;exact Uo (Nat.mul_pos (by have:=hM.n1;omega) ac) hd (FD hM) (FD hK)
theorem zbZ{P:Prop}(h:P:=by
 obtain⟨a0,a1,a2,b0,b1,b2,c0,c1,c2⟩:=aA.o _ hx;exact zcY):P:=h
theorem zaB{P:Prop}(h:P:=by
 have e3:=T 3 _ rfl;exact zbZ):P:=h
theorem zcX{P:Prop}(h:P:=by
 rintro e w3⟨rfl,aB⟩;exact hK _ aB):P:=h
theorem zcf{P:Prop}(h:P:=by
 clear T;go_simp;refine(bK.o _).mono ?_;exact zcX):P:=h
theorem zcC{P:Prop}(h:P:=by
 clear aC;go_wp2_with fail
 go_ret;exact⟨rfl,HX.o.trans aE.o⟩):P:=h
theorem EW(w:World)(p m:Int)(mv:Value)(ml:List Int)(aD:Aj w mv ml)(pv sv:Value)(pl sl:List Int)(fr:Int)(hp:Aj w pv pl)(hs:Aj w sv sl)(qv tv:Value)(ql tl:List Int)(fs:Int)(hq:Aj w qv ql)(ht:Aj w tv tl):
  Calls Tryz.prog 11 #[.agg #[.int .i64 p,.int .i64 m,mv],.agg #[pv,sv,.int .i64 fr],.agg #[qv,tv,.int .i64 fs]] w fun r w'=>r= .returned (.bool true)/\Ex w w':=by
 obtain⟨a0,a1,a2,ea⟩:=Da w p m mv;obtain⟨b0,b1,b2,eb⟩:=Ay (w.alloc (.cells #[.int .i64 p,.int .i64 m,mv] 24)) pv sv fr;obtain⟨c0,c1,c2,ec⟩:=Ay ((w.alloc (.cells #[.int .i64 p,.int .i64 m,mv] 24)).alloc (.cells #[pv,sv,.int .i64 fr] 26)) qv tv fs;have bW:(w.alloc (.cells #[.int .i64 p,.int .i64 m,mv] 24)).heap.size=w.heap.size+1:=ag;have bU:((w.alloc (.cells #[.int .i64 p,.int .i64 m,mv] 24)).alloc (.cells #[pv,sv,.int .i64 fr] 26)).heap.size=w.heap.size+1+1:=ag;rw[bW]at b0 b1 b2;rw[bU]at c0 c1 c2;replace a0:=(eb.trans ec).cell a0;replace a1:=(eb.trans ec).cell a1;replace a2:=(eb.trans ec).cell a2;replace b0:=ec.cell b0;replace b1:=ec.cell b1;replace b2:=ec.cell b2;obtain⟨HX,cX,bK,cW,cV,cU,cA,bJ,bI⟩:=Ha0 (ea.trans (eb.trans ec)) (fun w'=>RY w') (fun w'=>Gg p m mv w') (fun (w':World) (h:Ex w w')=>Ie w' p m ml _ (aD.ex h) pl.length pl sl _ _ (hp.ex h) (hs.ex h) fr) (fun (w':World) (h:Ex w w')=>Ie w' p m ml _ (aD.ex h) pl.length ql tl _ _ (hq.ex h) (ht.ex h) fs) (fun (w':World) (h:Ex w w')=>Ox w' p m ml _ (aD.ex h) pl sl _ _ (hp.ex h) (hs.ex h) fr ql tl _ _ (hq.ex h) (ht.ex h) fs) (fun (w':World) (h:Ex w w') (C1 C2:List Int) (u v:Value) (hu:Aj w' u C1) (hv:Aj w' v C2)=>ER w' p m ml _ (aD.ex h) C1 C2 u v hu hv 0) (fun (w':World) (h:Ex w w')=>ER w' p m ml _ (aD.ex h) pl sl _ _ (hp.ex h) (hs.ex h) fr) (fun (w':World) (h:Ex w w')=>ER w' p m ml _ (aD.ex h) ql tl _ _ (hq.ex h) (ht.ex h) fs);obtain⟨ma,mc,rfl,-,m2,-⟩:=aD.open;obtain⟨pa,pc,rfl,-,q2,-⟩:=hp.open;obtain⟨sa,sc,rfl,-,s2,-⟩:=hs.open;obtain⟨qa,qc,rfl,-,x2,-⟩:=hq.open;obtain⟨ta,tc,rfl,-,y2,-⟩:=ht.open;unfold maxLen at m2 q2 s2 x2 y2;obtain⟨B,hB⟩:=nA w.heap.size;rw[hB]at a0 a1 a2 b0 b1 b2 c0 c1 c2;obtain⟨E1,aO⟩:∃e,BF p m ml pl.length pl sl fr=e:=⟨_,rfl⟩;obtain⟨E2,bC⟩:∃e,BF p m ml pl.length ql tl fs=e:=⟨_,rfl⟩;have dI:=Aa (show E1=0->∃pn mn:Nat,p=pn/\m=mn/\Li pn mn ml from fun h=>by
  obtain⟨pn,mn,_,_,e1,e2,_,_,hf,_⟩:=Fm (aO.trans h);exact⟨pn,mn,e1,e2,hf⟩)
 have cZ:=Aa (show E1=0->E2=0->fr=0->fs=0->ql.length=pl.length->pl.length*(p.toNat^m.toNat-1)<=64->N9 p m ml pl sl 0 ql tl 0=0/\∃C1 C2,Pz p m ml pl sl 0 ql tl 0=⟨C1,C2,0⟩/\OC p m ml C1 C2 0=0/\OC p m ml pl sl 0=0/\OC p m ml ql tl 0=0/\GP [OA p m ml pl sl 0,OA p m ml ql tl 0]=(OA p m ml C1 C2 0,0) from fun h1 h2 h3 h4 h5 h6=>by
  subst h3 h4;exact Ws (aO.trans h1) (bC.trans h2) h5 h6)
 rw[aO]at cW;rw[bC]at cV;clear aD hp hs hq ht ea eb ec bW bU aO bC;go_enter Tryz.func11,Tryz.ntmps11
 go_upto_region 1 with fail
 try simp only[hB]
 clear hB;generalize ((w.alloc (.cells #[.int .i64 p,.int .i64 m,.slice ma ml.length mc] 24)).alloc (.cells #[.slice pa pl.length pc,.slice sa sl.length sc,.int .i64 fr] 26)).alloc (.cells #[.slice qa ql.length qc,.slice ta tl.length tc,.int .i64 fs] 26)=w1 at *;have aA:=Aa (fun w' (h:Ex w1 w')=>(⟨h.cell a0,h.cell a1,h.cell a2,h.cell b0,h.cell b1,h.cell b2,h.cell c0,h.cell c1,h.cell c2⟩:_/\_/\_/\_/\_/\_/\_/\_/\_));have bV:∀w',Ex w1 w'->Calls Tryz.prog 13 #[] w' fun r w''=>r= .returned (.bool true)/\Ex w1 w'':=fun w' h=>(cX.o w').mono fun r w'' ⟨h1,h2⟩=>⟨h1,h.trans h2⟩;have dJ:=Aa bV;have HX1:=Aa (Ex.refl w1);clear bV;clear a0 a1 a2 b0 b1 b2 c0 c1 c2;obtain⟨Q,HQ⟩:=Fl (CJ p m);rw[HQ.o]at bK;obtain⟨D,HD⟩:=Fl ((pl.length:Int)*(Q-1));obtain⟨j1,cT⟩:=Fl (decide ((20:Int)<(pl.length:Int)));obtain⟨j2,cS⟩:=Fl ((ql.length:Int) !=(pl.length:Int));obtain⟨l2,cK⟩:=Fl (j1||j2);obtain⟨j3,cR⟩:=Fl (decide ((20:Int)<(sl.length:Int)));obtain⟨l3,cJ⟩:=Fl (l2||j3);obtain⟨j4,cQ⟩:=Fl (decide ((20:Int)<(tl.length:Int)));obtain⟨l4,cI⟩:=Fl (l3||j4);obtain⟨j5,cP⟩:=Fl (decide ((32:Int)<Q));obtain⟨l5,cH⟩:=Fl (l4||j5);obtain⟨j6,cO⟩:=Fl (E1 !=0);obtain⟨l6,cG⟩:=Fl (l5||j6);obtain⟨j7,cN⟩:=Fl (E2 !=0);obtain⟨l7,cF⟩:=Fl (l6||j7);obtain⟨j8,cM⟩:=Fl (fr !=0);obtain⟨l8,cE⟩:=Fl (l7||j8);obtain⟨j9,cL⟩:=Fl (fs !=0);obtain⟨l9,cD⟩:=Fl (l8||j9);obtain⟨bN,aL⟩:=Fl (decide ((64:Int)<D));obtain⟨bM,aK⟩:=Fl (l9||bN);have bL:=Aa (show l9=false->¬20<pl.length/\ql.length=pl.length/\¬20<sl.length/\¬20<tl.length/\Q<=32/\E1=0/\E2=0/\fr=0/\fs=0 from fun h=>by
  rw[<-cD.o,<-cE.o,<-cF.o,<-cG.o,<-cH.o,<-cI.o,<-cJ.o,<-cK.o,<-cL.o,<-cM.o,<-cN.o,<-cO.o,<-cP.o,<-cQ.o,<-cR.o,<-cS.o,<-cT.o]at h;simp only[Bool.or_eq_false_iff,decide_eq_false_iff_not,bne_eq_false_iff_eq]at h;obtain⟨⟨⟨⟨⟨⟨⟨⟨h1,h2⟩,h3⟩,h4⟩,h5⟩,h6⟩,h7⟩,h8⟩,h9⟩:=h;exact⟨ac,ac,ac,ac,ac,h6,h7,h8,h9⟩)
 have bG:=Aa (show l9=false->∃(pn mn q:Nat),p=pn/\m=mn/\pn^mn=q/\2<=q/\q<=32/\Q=q/\D=(pl.length*(q-1):Nat)/\pl.length*(q-1)<=20*31 from fun h=>by
  obtain⟨k1,k2,k3,k4,k5,k6,k7,k8,k9⟩:=bL.o h;obtain⟨pn,mn,rfl,rfl,aX⟩:=dI.o k6;have aV:=HQ.o;rw[S4 aX]at aV;have aW:2<=pn^mn:=Nat.le_trans aX.p2 (Nat.le_self_pow (by have:=aX.m1;omega) pn);refine⟨pn,mn,_,rfl,rfl,rfl,aW,ac,aV.symm,?_,Nat.mul_le_mul ac ac⟩;rw[<-HD.o,<-aV,Int.natCast_mul,Int.natCast_sub ac];rfl)
 have HW:=Aa (show l9=false->IntKind.i64.wrap (Q-1)=Q-1/\IntKind.i64.wrap ((pl.length:Int)*(Q-1))=D from fun h=>by
  obtain⟨pn,mn,q,-,-,-,k1,k2,k3,k4,k5⟩:=bG.o h;rw[HD.o];exact⟨IntWalk.i64_in _ ac,IntWalk.i64_in _ ac⟩)
 refine Bp (fun k=>([.bool true,.bool false,.bool false,.pointer (some ⟨B+1,0,none⟩),.slice pa pl.length pc,.int .i64 (pl.length:Int),.bool j1,.bool j1,.bool j1,bif j1 then undef else .pointer (some ⟨B+1+1,0,none⟩),bif j1 then undef else .slice qa ql.length qc,bif j1 then undef else .int .i64 (ql.length:Int),bif j1 then undef else .pointer (some ⟨B+1,0,none⟩),bif j1 then undef else .slice pa pl.length pc,bif j1 then undef else .int .i64 (pl.length:Int),bif j1 then undef else .bool j2,.bool l2,.bool l2,bif l2 then undef else .pointer (some ⟨B+1,1,none⟩),bif l2 then undef else .slice sa sl.length sc,bif l2 then undef else .int .i64 (sl.length:Int),bif l2 then undef else .bool j3,.bool l3,.bool l3,bif l3 then undef else .pointer (some ⟨B+1+1,1,none⟩),bif l3 then undef else .slice ta tl.length tc,bif l3 then undef else .int .i64 (tl.length:Int),bif l3 then undef else .bool j4,.bool l4,.bool l4,bif l4 then undef else .agg #[.int .i64 p,.int .i64 m,.slice ma ml.length mc],bif l4 then undef else .int .i64 Q,bif l4 then undef else .bool j5,.bool l5,.bool l5,bif l5 then undef else .agg #[.int .i64 p,.int .i64 m,.slice ma ml.length mc],bif l5 then undef else .pointer (some ⟨B+1,0,none⟩),bif l5 then undef else .slice pa pl.length pc,bif l5 then undef else .int .i64 (pl.length:Int),bif l5 then undef else .agg #[.slice pa pl.length pc,.slice sa sl.length sc,.int .i64 fr],bif l5 then undef else .int .i64 E1,bif l5 then undef else .bool j6,.bool l6,.bool l6,bif l6 then undef else .agg #[.int .i64 p,.int .i64 m,.slice ma ml.length mc],bif l6 then undef else .pointer (some ⟨B+1,0,none⟩),bif l6 then undef else .slice pa pl.length pc,bif l6 then undef else .int .i64 (pl.length:Int),bif l6 then undef else .agg #[.slice qa ql.length qc,.slice ta tl.length tc,.int .i64 fs],bif l6 then undef else .int .i64 E2,bif l6 then undef else .bool j7,.bool l7,.bool l7,bif l7 then undef else .pointer (some ⟨B+1,2,none⟩),bif l7 then undef else .int .i64 fr,bif l7 then undef else .bool j8,.bool l8,.bool l8,bif l8 then undef else .pointer (some ⟨B+1+1,2,none⟩),bif l8 then undef else .int .i64 fs,bif l8 then undef else .bool j9,.bool l9,.bool l9,bif l9 then undef else .pointer (some ⟨B+1,0,none⟩),bif l9 then undef else .slice pa pl.length pc,bif l9 then undef else .int .i64 (pl.length:Int),bif l9 then undef else .agg #[.int .i64 p,.int .i64 m,.slice ma ml.length mc],bif l9 then undef else .int .i64 Q,bif l9 then undef else .int .i64 (Q-1),bif l9 then undef else .int .i64 D,bif l9 then undef else .bool bN,.bool bM]:List Value).getD k undef) ah ah ah ?_ ?_
 .simp only[AG];refine⟨?_,?_,?_,?_,?_,?_,?_,?_,?_,?_,?_,?_,?_,?_,?_,?_,?_,?_,?_,?_,?_,?_,?_,?_,?_,?_,?_,?_,?_,?_,?_,?_,?_,?_,?_,?_,?_,?_,?_,?_,?_,?_,?_,?_,?_,?_,?_,?_,?_,?_,?_,?_,?_,?_,?_,?_,?_,?_,?_,?_,?_,?_,?_,?_,?_,?_,?_,?_,?_,?_,?_,?_,trivial⟩
  all_goals first|refine AT.go rfl fun a w T hx K hK=>?_|(refine AT.gd j1 ?_;rintro rfl a w T hx K hK)|(refine AT.gd l2 ?_;rintro rfl a w T hx K hK)|(refine AT.gd l3 ?_;rintro rfl a w T hx K hK)|(refine AT.gd l4 ?_;rintro rfl a w T hx K hK)|(refine AT.gd l5 ?_;rintro rfl a w T hx K hK)|(refine AT.gd l6 ?_;rintro rfl a w T hx K hK)|(refine AT.gd l7 ?_;rintro rfl a w T hx K hK)|(refine AT.gd l8 ?_;rintro rfl a w T hx K hK)|(refine AT.gd l9 ?_;rintro rfl a w T hx K hK)
  .clear T;go_simp;refine(cX.o _).mono ?_;exact zcX
  .have e17:=T 17 _ rfl;exact zcY
  .have e18:=T 18 _ rfl;exact zcY
  .exact zaT
  .have e20:=T 20 _ rfl;exact zbZ
  .have ZQ:=T 21 _ rfl;exact zcY
  .have e22:=T 22 _ rfl;have y:=cT.o;exact zcY
  .have e19:=T 19 _ rfl;have e23:=T 23 _ rfl;exact zcY
  .have e24:=T 24 _ rfl;exact zcY
  .exact zaR
  .have e26:=T 26 _ rfl;exact zbZ
  .have e27:=T 27 _ rfl;exact zcY
  .exact zaT
  .have e29:=T 29 _ rfl;exact zbZ
  .have e30:=T 30 _ rfl;exact zcY
  .have e28:=T 28 _ rfl;have Zh:=T 31 _ rfl;have y:=cS.o;exact zcY
  .have e25:=T 25 _ rfl;have e32:=T 32 _ rfl;obtain rfl:=cK.o;cases j1
   .exact zaY
   .exact zaY
  .have e33:=T 33 _ rfl;exact zcY
  .exact zaT
  .have e35:=T 35 _ rfl;exact zbZ
  .have e36:=T 36 _ rfl;exact zcY
  .have e37:=T 37 _ rfl;have y:=cR.o;exact zcY
  .have e34:=T 34 _ rfl;have e38:=T 38 _ rfl;obtain rfl:=cJ.o;cases l2
   .exact zaY
   .exact zaY
  .have e39:=T 39 _ rfl;exact zcY
  .exact zaR
  .have e41:=T 41 _ rfl;exact zbZ
  .have e42:=T 42 _ rfl;exact zcY
  .have e43:=T 43 _ rfl;have y:=cQ.o;exact zcY
  .have e40:=T 40 _ rfl;have e44:=T 44 _ rfl;obtain rfl:=cI.o;cases l3
   .exact zaY
   .exact zaY
  .have e45:=T 45 _ rfl;exact zcY
  .exact zaB
  .have e47:=T 47 _ rfl;exact zcf
  .have e48:=T 48 _ rfl;have y:=cP.o;exact zcY
  .have e46:=T 46 _ rfl;have e49:=T 49 _ rfl;obtain rfl:=cH.o;cases l4
   .exact zaY
   .exact zaY
  .have e50:=T 50 _ rfl;exact zcY
  .exact zaB
  .exact zaT
  .have e53:=T 53 _ rfl;exact zbZ
  .have e54:=T 54 _ rfl;exact zcY
  .have e4:=T 4 _ rfl;exact zbZ
  .have e52:=T 52 _ rfl;have e55:=T 55 _ rfl;have e56:=T 56 _ rfl;clear T;go_simp;refine(cW.o _ (HX.o.trans hx)).mono ?_;exact zcX
  .have e57:=T 57 _ rfl;have y:=cO.o;exact zcY
  .have e51:=T 51 _ rfl;have e58:=T 58 _ rfl;obtain rfl:=cG.o;cases l5
   .exact zaY
   .exact zaY
  .have e59:=T 59 _ rfl;exact zcY
  .exact zaB
  .exact zaT
  .have e62:=T 62 _ rfl;exact zbZ
  .have e63:=T 63 _ rfl;exact zcY
  .have e5:=T 5 _ rfl;exact zbZ
  .have e61:=T 61 _ rfl;have e64:=T 64 _ rfl;have e65:=T 65 _ rfl;clear T;go_simp;refine(cV.o _ (HX.o.trans hx)).mono ?_;exact zcX
  .have e66:=T 66 _ rfl;have y:=cN.o;exact zcY
  .have e60:=T 60 _ rfl;have e67:=T 67 _ rfl;obtain rfl:=cF.o;cases l6
   .exact zaY
   .exact zaY
  .have e68:=T 68 _ rfl;exact zcY
  .exact zaT
  .have e70:=T 70 _ rfl;exact zbZ
  .have e71:=T 71 _ rfl;have y:=cM.o;exact zcY
  .have e69:=T 69 _ rfl;have e72:=T 72 _ rfl;obtain rfl:=cE.o;cases l7
   .exact zaY
   .exact zaY
  .have e73:=T 73 _ rfl;exact zcY
  .exact zaR
  .have e75:=T 75 _ rfl;exact zbZ
  .have e76:=T 76 _ rfl;have y:=cL.o;exact zcY
  .have e74:=T 74 _ rfl;have e77:=T 77 _ rfl;obtain rfl:=cD.o;cases l8
   .exact zaY
   .exact zaY
  .have e78:=T 78 _ rfl;exact zcY
  .exact zaT
  .have e80:=T 80 _ rfl;exact zbZ
  .have e81:=T 81 _ rfl;exact zcY
  .exact zaB
  .have e83:=T 83 _ rfl;exact zcf
  .have e84:=T 84 _ rfl;obtain⟨W1,W2⟩:=HW.o rfl;exact zcY
  .have e82:=T 82 _ rfl;have e85:=T 85 _ rfl;obtain⟨W1,W2⟩:=HW.o rfl;exact zcY
  .have e86:=T 86 _ rfl;have y:=aL.o;exact zcY
  .have e79:=T 79 _ rfl;have e87:=T 87 _ rfl;obtain rfl:=aK.o;cases l9
   .exact zaY
   .exact zaY
 .intro wa aM;generalize hPK:BU _ _ _ _=PK;rw[LO hPK 17 89 ah];clear hPK PK;simp only[List.take_succ_cons,List.take_zero,List.drop_succ_cons,List.drop_zero,List.cons_append,List.nil_append]
  cases bM with
  | true=>
   have dC:=Aa aM;clear aM;go_wp2_with fail
   refine(dJ.o _ dC.o).mono ?_;rintro e w99⟨rfl,aC⟩;have aE:=Aa aC;exact zcC
  | false=>
   have aP:=Aa aM;clear aM;obtain⟨aY,aI⟩:=YC aK;obtain⟨k1,aJ,k3,k4,k5,rfl,rfl,rfl,rfl⟩:=bL.o aY;obtain⟨pn,mn,q,rfl,rfl,hq,aW,dA,rfl,hD,dB⟩:=bG.o aY;have dG:=Aa aJ;have jD:D<=64:=by
    have h:=aL.o;rw[aI]at h;have:=of_decide_eq_false h;omega
   have cY:=Aa (cZ.o rfl rfl rfl rfl dG.o (by simp only[Int.toNat_natCast];rw[hq];omega));clear cZ bL bG HW k1 k3 k4 k5 hq aW dA hD dB aY aI aJ jD;obtain⟨f1,C1,C2,f2,f3,f4,f5,f6⟩:=cY.o;rw[f1,f2]at cU;rw[f4]at bJ;rw[f5]at bI;have cB:=Aa (fun (w':World) (h:Ex w w') (u v:Value) (hu:Aj w' u C1) (hv:Aj w' v C2)=>(by
    have:=cA.o w' h C1 C2 u v hu hv;rw[f3]at this;exact this:Calls Tryz.prog 15 #[.agg #[.int .i64 (pn:Int),.int .i64 (mn:Int),.slice ma ml.length mc],.agg #[u,v,.int .i64 0]] w' fun r w''=>ZY (OA pn mn ml C1 C2 0) 0 r w''/\Ex w' w''))
   obtain⟨LA,bT⟩:∃l,OA pn mn ml pl sl 0=l:=⟨_,rfl⟩;obtain⟨LB,bS⟩:∃l,OA pn mn ml ql tl 0=l:=⟨_,rfl⟩;obtain⟨LC,bR⟩:∃l,OA pn mn ml C1 C2 0=l:=⟨_,rfl⟩;rw[bT]at bJ f6;rw[bS]at bI f6;rw[bR]at cB f6;have dH:=Aa f6;clear f1 f2 f3 f4 f5 f6 bT bS bR cA cY;obtain⟨w2,bP⟩:∃x,x=wa:=⟨_,rfl⟩;rw[<-bP]at aP ⊢;clear bP;obtain⟨a0,a1,a2,b0,b1,b2,c0,c1,c2⟩:=aA.o w2 aP.o;go_wp2_with fail
   refine(cU.o w2 (HX.o.trans aP.o)).mono ?_;rintro e w3⟨⟨y1,y2,rfl,aH,aG⟩,aB⟩;obtain⟨ua,uc,rfl,-⟩:=aH.open;obtain⟨ub,ud,rfl,-⟩:=aG.open
   try simp only at aH aG
   obtain⟨L1,bB⟩:∃n,C1.length=n:=⟨_,rfl⟩;obtain⟨L2,bA⟩:∃n,C2.length=n:=⟨_,rfl⟩;rw[bB]at aH;rw[bA]at aG
   try simp only[bB,bA]
   obtain⟨d0,d1,d2,ed⟩:=Ay w3 (.slice ua L1 uc) (.slice ub L2 ud) 0;have bF:=Aa (aP.o.trans (aB.trans ed));have bZ:=Aa (aH.ex ed);have bY:=Aa (aG.ex ed);clear aB aH aG ed bB bA a0 a1 a2 b0 b1 b2 c0 c1 c2;go_upto_region 4 with fail
   obtain⟨UB,aZ⟩:∃B,w3.heap.size=B:=⟨_,rfl⟩;rw[aZ]at d0 d1 d2
   try simp only[aZ]
   clear aZ;generalize w3.alloc (.cells #[.slice ua L1 uc,.slice ub L2 ud,.int .i64 0] 26)=w4 at *;obtain⟨a0,a1,a2,b0,b1,b2,c0,c1,c2⟩:=aA.o w4 bF.o;go_wp2_with fail
   refine(cB.o w4 (HX.o.trans bF.o) _ _ bZ.o bY.o).mono ?_;rintro e w5⟨⟨va,rfl,bQ⟩,bO⟩;have bE:=Aa (bF.o.trans bO);have aF:=Aa bQ;clear bQ d0 d1 d2 bZ bY;clear bO a0 a1 a2 b0 b1 b2 c0 c1 c2;obtain⟨a0,a1,a2,b0,b1,b2,c0,c1,c2⟩:=aA.o w5 bE.o;go_wp2_with fail
   refine(bJ.o w5 (HX.o.trans bE.o)).mono ?_;rintro e w6⟨⟨vb,rfl,aT⟩,aR⟩;have bD:=Aa (bE.o.trans aR);have aF:=Aa (aF.o.ex aR);obtain⟨ba,bc,rfl,-⟩:=aT.open;have bH:=Aa aT;clear aT;clear aR a0 a1 a2 b0 b1 b2 c0 c1 c2;obtain⟨a0,a1,a2,b0,b1,b2,c0,c1,c2⟩:=aA.o w6 bD.o;go_wp2_with fail
   refine(bI.o w6 (HX.o.trans bD.o)).mono ?_;rintro e w7⟨⟨vc,rfl,aS⟩,aN⟩;have bX:=Aa (bD.o.trans aN);have aF:=Aa (aF.o.ex aN);have bH:=Aa (bH.o.ex aN);obtain⟨ca,cc,rfl,-⟩:=aS.open;have dE:=Aa aS;clear aS;clear aN a0 a1 a2 b0 b1 b2 c0 c1 c2;obtain⟨a0,a1,a2,b0,b1,b2,c0,c1,c2⟩:=aA.o w7 bX.o;clear a0 a1 a2 b0 b1 b2 c0 c1 c2;go_wp2_with fail
   have cC:=Aa (Qi w7 [LA,LB] [.slice ba LA.length bc,.slice ca LB.length cc] _ 22 rfl rfl (SH bH.o dE.o) rfl rfl ag);refine(Ka _ _ _ cC.o).mono ?_;rintro e w8⟨⟨v9,rfl,aU⟩,aQ⟩;rw[dH.o]at aU ⊢;have dF:=Aa aU;have aF:=Aa (aF.o.ex ((AE _ _).trans aQ));have dD:=Aa (bX.o.trans ((AE _ _).trans aQ));clear aQ aU cC;go_wp2_with fail
   refine(Tz _ _ _ LC aF.o dF.o).mono ?_;rintro e w99⟨rfl,aC⟩;have aE:=Aa (dD.o.trans aC);exact zcC
end Go.Proofs.YtehieobniamagaaGreat
