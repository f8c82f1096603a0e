/- Walk of automorphism.points, of. -/
import Derived.Laws.EntriesVeiled
import Derived.Deep.CutRange
import Derived.Test.YtehieobniamagaaGreatZp06
import Derived.Test.YtehieobniamagaaGreatZp12
import Derived.Test.YtehieobniamagaaGreatZp15
import Derived.Test.YtehieobniamagaaGreatZp22
namespace Go.Proofs.YtehieobniamagaaGreat
set_option linter.unusedVariables false
set_option linter.unusedSimpArgs false
set_option maxRecDepth 100000
set_option maxHeartbeats 8000000
section
open Go.RowKit
theorem Gj(w:World)(n q:Nat)(hn:n<=64)(aA:1<=q)(hq:q<=256):
  Calls Tryz.prog 53 #[.int .i64 n,.int .i64 q] w fun r w'=>r= .returned (.tuple #[.int .i64 ((if 64<n*(q-1) then 0 else n*(q-1):Nat):Int),.int .i64 (if 64<n*(q-1) then 8 else 0)])/\w=w':=by
 obtain⟨D,hD⟩:=nA (n*(q-1));have hDb:D<=20000:=by rw[<-hD];exact Nat.le_trans (Nat.mul_le_mul hn (show q-1<=255 by omega)) ac
 have k1:(n:Int)*((q:Int)-1)=(D:Int):=by rw[<-hD,Int.natCast_mul,Int.natCast_sub aA];rfl
 rw[hD];clear hD;by_cases h:64<D
 .rw[if_pos h,if_pos h];have h2:(64:Int)<(D:Int):=by omega
  go_enter Tryz.func53,Tryz.ntmps53
  go_wp2_with fail
  go_ret2;exact⟨rfl,rfl⟩
 .rw[if_neg h,if_neg h];have h2:¬(64:Int)<(D:Int):=by omega
  go_enter Tryz.func53,Tryz.ntmps53
  go_wp2_with fail
  go_ret2;exact⟨rfl,rfl⟩
def Jt(p m:Nat)(ml pl sl:List Int)(k:Nat):Int:=
 ((Et pl (k/(p^m-1))*(p^m-1)+Ar p m (lw ml) (AA (p^m) (sl.getD (k/(p^m-1)) 0)) (k%(p^m-1)+1):Nat):Int)-1
def Fu(p m:Nat)(ml pl sl:List Int):List Int:=il (pl.length*(p^m-1)) (Jt p m ml pl sl)
section
variable {b p m x0:Nat} {ml:List Int}
theorem Pb(w:World)(hg:AR w b p m ml x0)(N:Nat)(hN:N<=64)(pl sl:List Int)(pv sv:Value)(hp:Ak w pv pl)(hs:Ak w sv sl)(aI:pl.length=N)(aH:sl.length=N)(hr:Bq pl N=true)(hd:N*(p^m-1)<=64)(fr:Int):
  Calls Tryz.prog 55 #[.pointer (some ⟨b,0,none⟩),.agg #[pv,sv,.int .i64 fr]] w fun r w'=>∃v,r= .returned v/\w'.ownsRow w.heap.size 3 1 v (N*(p^m-1)) (vs (N*(p^m-1)) (iv (Jt p m ml pl sl)))/\Ex w w':=by
 obtain⟨b0,b1,b2,eb⟩:=Az w pv sv fr;have bF:=Aa (fun (w1:World) (h1:Ex w w1) (y z:Int)=>Eg w1 (hg.ex h1) y z);have aO:=Aa (BR _ (hg.ex eb));have bP:2<=p^m:=Nat.le_trans hg.sh.p2 (Nat.le_self_pow (by have:=hg.sh.m1;omega) p);have bO:=hg.sh.q;have bH:=Aa (fun (x y:Nat)=>Cg (p:=p) (m:=m) (low:=lw ml) (by have:=hg.sh.p2;omega) x y);obtain⟨pa,pc,rfl,_,q2,p3⟩:=hp.open;obtain⟨sa,sc,rfl,_,s2,s3⟩:=hs.open;unfold maxLen at q2 s2;rw[aI]at p3;rw[aH]at s3;have P3:=Aa p3;have S3:=Aa s3;have bT:=Aa (fun i (hi:i<N)=>Dk hr (i:=i) ac);have bX:=Aa (fun i (hi:i<N)=>Ay (l:=pl) (i:=i) ac);have bW:=Aa (fun i (hi:i<N)=>Ay (l:=sl) (i:=i) ac);rw[aI,aH]at b0 b1 eb aO ⊢;have aF:=Aa eb;obtain⟨q,hq⟩:=nA (p^m);obtain⟨Q,hQ⟩:=nA (q-1);obtain⟨F,hF⟩:=nA (Jt p m ml pl sl);have bY:=Aa (show ∀i c:Nat,c<Q->F (i*Q+c)=((Et pl i*Q+Ar p m (lw ml) (AA q (sl.getD i 0)) (c+1):Nat):Int)-1 from fun i c hc=>by
  rw[<-hF];unfold Jt;rw[hq,hQ,Nat.mul_comm i Q,Nat.mul_add_div ac,Nat.mul_add_mod,Nat.div_eq_of_lt hc,Nat.mod_eq_of_lt hc,Nat.add_zero])
 rw[hq]at aO bF bH bP bO hd ⊢;rw[hQ]at hd ⊢;rw[hF];obtain⟨D,hD⟩:=nA (N*Q);have bM:=Aa (show ∀i,i<N->i*Q+Q<=D from fun i hi=>by rw[<-hD];have:=Nat.mul_le_mul_right Q (show i+1<=N from hi);rwa[Nat.succ_mul]at this);have k1:(N:Int)*((q:Int)-1)=(D:Int):=by rw[<-hD,<-hQ,Int.natCast_mul,Int.natCast_sub ac];rfl
 rw[hD]at hd ⊢;have HQ:=Aa (show(q:Int)-1=(Q:Int) from ac);have aN:=Aa (show q=Q+1 from ac);have cB:=Aa hD;clear hg hp hs p3 s3 eb aI aH hr hF hq hQ hD;go_enter Tryz.func55,Tryz.ntmps55
 go_upto_region 1 with fail
 obtain⟨B,hB⟩:=nA w.heap.size;rw[hB]at b0 b1 b2
 try simp only[hB]
 have HBW:=Aa hB;clear hB;generalize w.alloc (.cells #[.slice pa N pc,.slice sa N sc,.int .i64 fr] 26)=w1 at *;go_upto_region 2 with (go_at_call 54;refine aO.o.mono ?_;rintro e w2⟨rfl,rfl⟩)
 obtain⟨i0,aX,aT,aS,aR⟩:=info_parts Aw;go_wp2_with (at_make;refine wpList_make_own _ rfl _ _ 22 rfl w1.heap.size 3 i0 (.int .i64 0) 1 Tryz.underlying22 aX aT aS .i64 .i64 (D:Int) D rfl rfl rfl (by rw[aR];omega) ai (Nat.le_refl _) ?_)
 intro w3 aA aY;obtain⟨V0,aZ⟩:∃v,Value.slice (some ⟨w1.heap.size,0,none⟩) 0 D=v:=⟨_,rfl⟩;rw[aZ]at aA ⊢;have bD:=Aa (show w3.ownsRow w1.heap.size 3 1 V0 (0*Q) (vs (0*Q) (iv F)) from by rw[Nat.zero_mul];exact aA);have bC:=Aa (show Ex w1 w3 from Below.grown (Ex.refl w1) aY (Nat.le_refl _) (fun k e=>by cases e));have B1:=Aa b1;replace b0:=bC.o.cell b0;have B0:=Aa b0;clear aA aY aZ aX aT aS aR;go_wp2_with fail
 go_loopw [6,22] (fun v' i' wr=>∃i:Nat,i<=N/\i'= .int .i64 i/\Hia (wr.ownsRow w1.heap.size 3 1 v' (i*Q) (vs (i*Q) (iv F)))/\Hia (Ex w1 wr)) (fun _ i' _=>N-(intOf i').toNat)
 case atStart=>exact⟨0,ac,rfl,bD,bC⟩
 case round=>
  clear bD;obtain⟨i,hi,rfl,aA,aB⟩:=hrel;by_cases hin:i<N
  .obtain⟨pb,po,rfl,aW⟩:=P3.o ac;obtain⟨sb,so,rfl,aV⟩:=S3.o ac;have bQ:=bT.o i hin;have cC:=Aa (aF.o.trans aB.o);obtain⟨y,hy⟩:=nA (Et pl i);have aU:pl.getD i 0=(y:Int):=by rw[<-hy];unfold Et;omega
   have bN:y<N:=ac;have aK:=bX.o i hin;rw[aU]at aK;have cp:=cC.o.cell (aW i _ aK);obtain⟨s,hs⟩:=nA (sl.getD i 0);have aJ:=bW.o i hin;rw[hs]at aJ;have cD:=Aa (aV i _ aJ);have i1:(0:Int)<=(i:Int):=ac;have i2:(i:Int)<(N:Int):=ac;obtain⟨YQ,aG⟩:∃z,y*Q=z:=⟨_,rfl⟩;have bS:=Aa (show YQ+Q<=D from by rw[<-aG];exact bM.o y bN);have bR:=Aa (show(y:Int)*((q:Int)-1)=(YQ:Int) from by rw[HQ.o,<-aG,Int.natCast_mul]);have bL:=Aa (show ∀c:Nat,c<Q->F (i*Q+c)=((YQ+Ar p m (lw ml) (AA q s) (c+1):Nat):Int)-1 from fun c hc=>by
    have:=bY.o i c hc;rw[hy,hs,aG]at this;exact this)
   have bK:=Aa (bM.o i hin);have bV:=Aa (fun (w5:World) (h5:Ex w1 w5) (c:Nat) (hc:c<q)=>(by
    have:=bF.o w5 (aF.o.trans h5) s (c:Int);rw[Bu hc]at this;exact this:Calls Tryz.prog 106 #[.pointer (some ⟨b,0,none⟩),.int .i64 s,.int .i64 (c:Int)] w5 (Qt w5 (.int .i64 (Ar p m (lw ml) (AA q s) c:Nat)))))
   have bI:=Aa (show(i+1)*Q=i*Q+Q from Nat.succ_mul i Q);obtain⟨IQ,bA⟩:∃z,i*Q=z:=⟨_,rfl⟩;rw[bA]at aA bL bK bI;have bE:=Aa aA.o;have cA:=Aa aB.o;have aE:=Aa aB.o;have bJ:=Aa hin;obtain⟨w8,h8⟩:∃w8,w8=wr:=⟨_,rfl⟩;rw[<-h8]at bE cA aE cp ⊢;have HW8:=Aa h8;clear bQ hy aU aK hs aJ aW aV aA aB aG bA hin h8 k1;go_wp2_with fail
   go_loopw [6,9] (fun v' c' wr=>∃c:Nat,1<=c/\c<=q/\c'= .int .i64 c/\Hia (wr.ownsRow w1.heap.size 3 1 v' (IQ+(c-1)) (vs (IQ+(c-1)) (iv F)))/\Hia (Ex w1 wr)) (fun _ c' _=>q-(intOf c').toNat)
   case atStart=>exact⟨1,ac,ac,rfl,bE,aE⟩
   case round=>
    obtain⟨c,hc1,hcq,rfl,aA,aB⟩:=hrel;by_cases hcn:c<q
    .have cs:=aB.o.cell (aF.o.cell cD.o);have cb:=aB.o.cell B1.o;obtain⟨t,ht⟩:=nA (Ar p m (lw ml) (AA q s) c);have htq:t<q:=by rw[<-ht];exact bH.o _ _
     have bZ:=Aa (show F (IQ+(c-1))=((YQ+t:Nat):Int)-1 from by
      rw[bL.o (c-1) (by have:=aN.o;omega),show c-1+1=c from ac,ht])
     have bG:=Aa (fun (w5:World) (h5:Ex wr w5)=>bV.o w5 (aB.o.trans h5) c hcn);rw[ht]at bG;obtain⟨va,vc,rfl⟩:=Ac aA.o;have aD:=Aa aA.o;have aC:=Aa aB.o;have aQ:=Aa (show IQ+(c-1)<=64/\IQ+(c-1)+1=IQ+(c+1-1) from⟨by have:=bK.o;have:=aN.o;omega,ac⟩);have k3:=bR.o;have k4:YQ<=64:=by have:=bS.o;omega
     have k5:(c:Int)<(q:Int):=ac;clear ht aA aB;go_upto_region 9 with fail
     go_wp2_with (first|(go_at_call 106;(with_reducible refine(bG.o _ (Ex.refl _)).mono ?_);rintro e w6⟨rfl,n6,rfl⟩;have aM:=Aa ((Ex.refl wr).drewN n6);have bU:=Aa (Ai aD.o aM.o);generalize wr.drewN n6=w6 at *)|(at_builtin;refine Al _ rfl _ _ 22 rfl w1.heap.size 3 (.int .i64 0) 1 8 Tryz.underlying22 Aw rfl ae _ (IQ+(c-1)) _ rfl bU.o [.int .i64 ((YQ:Int)+(t:Int)-1)] 3 _ rfl rfl rfl ak (by have:=aQ.o.1;unfold maxLen;omega) (by have:=aQ.o.1;omega) (Nat.le_trans aC.o.size aM.o.size) ?_))
     intro v9 w9 aL;have aP:=Aa (show w9.ownsRow w1.heap.size 3 1 v9 (IQ+(c+1-1)) (vs (IQ+(c+1-1)) (iv F)) from by
      have:=aL.own;rw[<-aQ.o.2,Lz];have e:iv F (IQ+(c-1))=Value.int .i64 ((YQ:Int)+(t:Int)-1):=by show Value.int .i64 (F (IQ+(c-1)))=_;rw[bZ.o];push_cast;rfl
      rw[e];exact this)
     have bB:=Aa (aL.ex (aC.o.trans aM.o) (Nat.le_refl _));obtain⟨v9a,v9c,rfl⟩:=Ac aP.o;clear aL;go_wp2_with fail
     go_roundw
     case rel=>first|exact⟨c+1,ac,ac,by go_num,aP,bB⟩|((repeat apply Exists.intro);exact⟨⟨c+1,ac,ac,by go_num,aP,bB⟩,rfl⟩)
     case measure=>simp[intOf];omega
    .obtain rfl:c=q:=by omega
     rw[show IQ+(c-1)=IQ+Q from by have:=aN.o;omega,<-bI.o]at aA;have aD:=Aa aA.o;have aC:=Aa aB.o;clear aA aB;go_wp2_with fail
     go_roundw
     case rel=>first|exact⟨i+1,ac,by go_num,aD,aC⟩|((repeat apply Exists.intro);exact⟨⟨i+1,by have:=bJ.o;omega,by go_num,aD,aC⟩,rfl⟩)
     case measure=>have:=bJ.o;simp[intOf];omega
  .obtain rfl:i=N:=by omega
   rw[cB.o]at aA;have aD:=Aa aA.o;have aC:=Aa (aF.o.trans aB.o);obtain⟨va,vc,rfl⟩:=Ac aD.o;clear aA aB;go_wp2_with fail
   go_ret;exact⟨_,rfl,De aD.o aF.o.size,aC.o⟩
end
end
section
open Go.RowKit
theorem Zb(w:World)(ev:Value):(w.alloc (.cells #[ev] 94)).cell? ⟨w.heap.size,0,none⟩=some ev:=ag
def YV(c d:AZ)(es:List Rf)(tl sl:List Int):Nat × Int:=WO c.p.toNat c.m.toNat c.ml c.rows d.rows c.n.toNat es (c.n.toNat-tl.length) 0 tl sl
def Zm(E:Int)(R:Nat × Int)(es:List Rf):Int:=if E≠0 then E else if R.2=0/\R.1<es.length then 13 else R.2
theorem Ga(w:World)(c d:AZ)(m1 m2 v1 v2:Value)(hc:c.at w m1 v1)(hd:d.at w m2 v2)(tl sl:List Int)(tv sv:Value)(ht:Ak w tv tl)(hs:Ak w sv sl)(es:List Rf)(ev:Value)(hr:OD w ev es):
  Calls Tryz.prog 133 #[c.arg m1 v1,d.arg m2 v2,.agg #[tv,sv],.agg #[ev]] w fun r w'=>(∃e1 e2:Int,Cm c.p c.m c.ml c.n c.rows e1/\(e1=0->Cm d.p d.m d.ml d.n d.rows e2)/\r= .returned (.int .i64 (Zm (Fb e1 e2 (Cw c.p c.m c.ml d.p d.m d.ml) c.n d.n tl sl (c.p.toNat^c.m.toNat)) (YV c d es tl sl) es)))/\Ex w w':=by
 obtain⟨c0,c1,c2,c3,c4⟩:=Dv w c m1 v1;obtain⟨d0,d1,d2,d3,d4⟩:=Dv (w.alloc (c.obj m1 v1)) d m2 v2;obtain⟨b0,b1,e3,aY⟩:=AK ((w.alloc (c.obj m1 v1)).alloc (d.obj m2 v2)) tv sv;have aI:=Zb (((w.alloc (c.obj m1 v1)).alloc (d.obj m2 v2)).alloc (.cells #[tv,sv] 71)) ev;have aZ:(w.alloc (c.obj m1 v1)).heap.size=w.heap.size+1:=ag;have aO:((w.alloc (c.obj m1 v1)).alloc (d.obj m2 v2)).heap.size=w.heap.size+1+1:=ag;have e1:=AI w (c.obj m1 v1);have e2:=AI (w.alloc (c.obj m1 v1)) (d.obj m2 v2);have e4:=AI (((w.alloc (c.obj m1 v1)).alloc (d.obj m2 v2)).alloc (.cells #[tv,sv] 71)) (.cells #[ev] 94);rw[aY,aO]at aI;rw[aZ]at d0 d1 d2 d3 d4;rw[aO]at b0 b1;have aC:=e1.trans (e2.trans (e3.trans e4));replace c0:=(e2.trans (e3.trans e4)).cell c0;replace c1:=(e2.trans (e3.trans e4)).cell c1;replace c2:=(e2.trans (e3.trans e4)).cell c2;replace c3:=(e2.trans (e3.trans e4)).cell c3;replace c4:=(e2.trans (e3.trans e4)).cell c4;replace d0:=(e3.trans e4).cell d0;replace d1:=(e3.trans e4).cell d1;replace d2:=(e3.trans e4).cell d2;replace d3:=(e3.trans e4).cell d3;replace d4:=(e3.trans e4).cell d4;replace b0:=e4.cell b0;replace b1:=e4.cell b1;obtain⟨B,hB⟩:=nA w.heap.size;rw[hB]at c0 c1 c2 c3 c4 d0 d1 d2 d3 d4 b0 b1 aI;have aL:=Aa (GY _ c d m1 m2 v1 v2 (hc.ex aC) (hd.ex aC) tl sl tv sv (ht.ex aC) (hs.ex aC));obtain⟨ta,tc,rfl,-,t2,-⟩:=ht.open;obtain⟨sa,sc,rfl,-,s2,-⟩:=hs.open;obtain⟨x1,y1,rfl,-,z1,-⟩:=hc.g.open;obtain⟨x2,y2,rfl,-,z2,-⟩:=hd.g.open;obtain⟨x3,y3,rfl,-,z3,-⟩:=hc.m.open;obtain⟨x4,y4,rfl,-,z4,-⟩:=hd.m.open;unfold maxLen at t2 s2 z1 z2 z3 z4;have HX:=Aa aC;have HC:=Aa hc;have HD:=Aa hd;have HT:=Aa ht;have HS:=Aa hs;have HR:=Aa hr;have aS:=Aa aI;obtain⟨ra,rc,rfl,bJ,-,-⟩:=Nk hr;unfold maxLen at bJ;have HWB:=Aa hB;clear hc hd ht hs hr e1 e2 e3 e4 aZ aO aY aC aI;unfold AZ.arg at aL ⊢;go_enter Tryz.func133,Tryz.ntmps133
 unfold AZ.obj at c0 c1 c2 c3 c4 d0 d1 d2 d3 d4 b0 b1 HX aS aL;go_upto_region 1 with fail
 try simp only[hB]
 clear hB;generalize (((w.alloc (.cells #[.int .i64 c.p,.int .i64 c.m,.slice x3 c.ml.length y3,.int .i64 c.n,.slice x1 c.rows.length y1] 39)).alloc (.cells #[.int .i64 d.p,.int .i64 d.m,.slice x4 d.ml.length y4,.int .i64 d.n,.slice x2 d.rows.length y2] 39)).alloc (.cells #[.slice ta tl.length tc,.slice sa sl.length sc] 71)).alloc (.cells #[.slice ra es.length rc] 94)=w1 at *;have B0:=Aa b0;have B1:=Aa b1;go_wp2_with fail
 refine aL.o.mono ?_;rintro e w3⟨ho,bA⟩;have aK:=Aa bA;obtain⟨e1,e2,bC,aF,ho⟩:=ho;have aM:=Aa bC;have bE:=Aa aF;clear c0 c1 c2 c3 c4 d0 d1 d2 d3 d4 bA bC aF aL b0 b1;obtain⟨E,hE⟩:=nA (Fb e1 e2 (Cw c.p c.m c.ml d.p d.m d.ml) c.n d.n tl sl (c.p.toNat^c.m.toNat));rw[hE]at ho;have HE:=Aa hE;rcases ho with⟨h0,ptr,rfl⟩|⟨h0,w2,A,b,x0,pn,mn,nn,hp,hm,hnn,rfl,hx2,hg,hx01,hx02,hA,hx23,hpr,h11,hf11⟩
 .have hb0:(E !=0)=true:=by simpa using h0
  have H0:=Aa h0;clear h0 hE;go_wp2_with fail
  go_ret;refine⟨⟨e1,e2,aM.o,bE.o,?_⟩,(HX.o.trans aK.o).alloc _⟩;rw[HE.o];unfold Zm;rw[if_pos H0.o];rfl
 .subst h0;obtain⟨k1,k2,k3,k4,k5,k6,k7,k8,k9⟩:=OJ hE;subst k1;have aF:=bE.o rfl;subst k2;obtain⟨aX,aV⟩:=CQ aM.o;obtain⟨aW,aU⟩:=CQ aF;obtain⟨-,bI,bH⟩:=EJ aM.o;obtain⟨SB,aJ⟩:∃B,w3.heap.size=B:=⟨_,rfl⟩;have aA:=HX.o.trans hx2;have b0:=aK.o.cell B0.o;have b1:=aK.o.cell B1.o;have r0:=aK.o.cell aS.o;have HK:=Aa (show c.n=d.n/\tl.length=sl.length/\(tl.length:Int)<=c.n/\Bq tl c.n=true from⟨k4,k5,k6,k7⟩);have aB:=Aa (show c.p=pn/\c.m=mn/\c.n=nn from⟨hp,hm,hnn⟩);clear aS hp hm hnn k3 k4 k5 k6 k7 k8 k9 hE;go_upto_region 7 with fail
  have f1:=AI w3 (.cells #[.pointer (some ⟨A,0,none⟩)] 186);have f2:=AI (w3.alloc (.cells #[.pointer (some ⟨A,0,none⟩)] 186)) (.cells #[.int .i64 0] 3);have f3:=AI ((w3.alloc (.cells #[.pointer (some ⟨A,0,none⟩)] 186)).alloc (.cells #[.int .i64 0] 3)) (.cells #[Hp (SB+1) (B+1+1+1) SB (SB+1+1)] 216);have aT:(w3.alloc (.cells #[.pointer (some ⟨A,0,none⟩)] 186)).cell? ⟨SB,0,none⟩=some (.pointer (some ⟨A,0,none⟩)):=AL _ _ _ aJ;have aH:(w3.alloc (.cells #[.pointer (some ⟨A,0,none⟩)] 186)).heap.size=SB+1:=by simp[aJ]
  have aR:((w3.alloc (.cells #[.pointer (some ⟨A,0,none⟩)] 186)).alloc (.cells #[.int .i64 0] 3)).cell? ⟨SB+1,0,none⟩=some (.int .i64 0):=AL _ _ _ aH;have bD:((w3.alloc (.cells #[.pointer (some ⟨A,0,none⟩)] 186)).alloc (.cells #[.int .i64 0] 3)).frozen? ⟨SB+1,0,none⟩=false:=EY _ _ _ aH;have bB:((w3.alloc (.cells #[.pointer (some ⟨A,0,none⟩)] 186)).alloc (.cells #[.int .i64 0] 3)).heap.size=SB+1+1:=by simp[aJ]
  have aQ:(((w3.alloc (.cells #[.pointer (some ⟨A,0,none⟩)] 186)).alloc (.cells #[.int .i64 0] 3)).alloc (.cells #[Hp (SB+1) (B+1+1+1) SB (SB+1+1)] 216)).cell? ⟨SB+1+1,0,none⟩=some (Hp (SB+1) (B+1+1+1) SB (SB+1+1)):=AL _ _ _ bB;have aD:=hx23.trans f1;have aG:=Aa (show Z5 pn mn c.ml c.rows d.rows nn A b x0 (B+1+1+1) SB (.slice x1 c.rows.length y1) (.slice x2 d.rows.length y2) (.slice ra es.length rc) es (w3.alloc (.cells #[.pointer (some ⟨A,0,none⟩)] 186)) from
   { pr:=hpr.ex f1,gf:=hg.ex aD,m1:=(HC.o.g.ex aA).ex aD,m2:=(HD.o.g.ex aA).ex aD,x1:=hx01,x2:=hx02,n64:=by have:=aB.o.2.2;omega,r1:=fun r hr=>by have:=aV r hr;have:=aB.o.2.2;omega,r2:=fun r hr=>by have:=aU r hr;have:=aB.o.2.2;have:=HK.o.1;omega,k1:=aX,k2:=aW,rb:=f1.cell r0,sb:=aT,rs:=(HR.o.ex aA).ex aD })
  have bF:=Aa (show Fl (w3.alloc (.cells #[.pointer (some ⟨A,0,none⟩)] 186)) (SB+1) (SB+1+1) (Hp (SB+1) (B+1+1+1) SB (SB+1+1)) es.length 0 (((w3.alloc (.cells #[.pointer (some ⟨A,0,none⟩)] 186)).alloc (.cells #[.int .i64 0] 3)).alloc (.cells #[Hp (SB+1) (B+1+1+1) SB (SB+1+1)] 216)) from
   { ex:=f2.trans f3,c:=f3.cell aR,f:=f3.frz aR bD,fb:=aQ,ne:=ac,lb:=by rw[aH];omega,le:=Nat.zero_le _ })
  have HP:=Aa (fun (v:Value) (l:List Int) (h:Ak w v l)=>show Cu (Rb (SB+1)) (((w3.alloc (.cells #[.pointer (some ⟨A,0,none⟩)] 186)).alloc (.cells #[.int .i64 0] 3)).alloc (.cells #[Hp (SB+1) (B+1+1+1) SB (SB+1+1)] 216)) v l from by
   refine⟨h.ex (((aA.trans hx23).trans f1).trans (f2.trans f3)),fun hl X hX hd=>?_⟩;have h2:=h.ex (aA.trans hx23);obtain⟨a,cap,rfl,-,-,h5⟩:=h2.open;obtain⟨b',o,rfl,h6⟩:=h5 (List.length_pos_iff.2 hl);injection hX with hX;have hX:b'=X:=hX;have:=World.block_lt_of_cell? _ _ (h6 0 _ (Ay (List.length_pos_iff.2 hl)));have hd:X=SB+1:=hd;simp only at this;omega)
  have b0:=(f1.trans (f2.trans f3)).cell b0;have b1:=(f1.trans (f2.trans f3)).cell b1;have r0:=(f1.trans (f2.trans f3)).cell r0;have aN:=Aa (Pt aG.o (nn-tl.length) 0 _ tl sl (.slice ta tl.length tc) (.slice sa sl.length sc) (by have:=HK.o.2.2.1;have:=aB.o.2.2;omega) HK.o.2.1.symm (by have:=HK.o.2.2.2;rw[aB.o.2.2]at this;exact this) (fun h=>absurd rfl h) bF.o (HP.o _ _ HT.o) (HP.o _ _ HS.o));have hR:WO pn mn c.ml c.rows d.rows nn es (nn-tl.length) 0 tl sl=YV c d es tl sl:=by
   unfold YV;rw[aB.o.1,aB.o.2.1,aB.o.2.2];rfl
  rw[hR]at aN;have fb1:=Aa aQ;unfold Hp at b0 b1 r0 aQ aN bF f3;have bK:=Aa (aA.trans aD);have bG:=aG.o.rb;clear aD aA aH bB aT aR bD f1 f2 HP hx23 hpr hg hx01 hx02 hA h11 hf11 hx2 aX aW aV aU bI bH hR;generalize ((w3.alloc (.cells #[.pointer (some ⟨A,0,none⟩)] 186)).alloc (.cells #[.int .i64 0] 3)).alloc (.cells #[.func (.func 180) #[] #[.pointer (some ⟨SB+1,0,none⟩),.pointer (some ⟨B+1+1+1,0,none⟩),.pointer (some ⟨SB,0,none⟩),.pointer (some ⟨SB+1+1,0,none⟩)]] 216)=w6 at *;obtain⟨R,hR⟩:=nA (YV c d es tl sl);rw[hR]at aN;have bM:=Aa hR
  try simp only[aJ]
  clear hR;have aP:R.1<=es.length∨True:=Or.inr trivial;clear aP;go_wp2_with (go_at_call 180;refine aN.o.mono ?_;rintro e7 w7⟨rfl,aE,-⟩;have bL:=Aa aE;have a7:=aE.c;have r7:=aE.ex.cell bG;have hl7:=aE.le;clear aE)
  all_goals
   go_ret;refine⟨⟨0,0,aM.o,fun _=>aF,?_⟩,bK.o.trans bL.o.ex⟩;rw[HE.o,bM.o];unfold Zm
   simp_all
end
section
open Go.RowKit
structure Sk(w1 wr:World)(E:Nat)(n:Int)(M:List (List Int))(rv:Value)(vals:List Value):Prop where
 c0:wr.cell? ⟨E,0,none⟩=some (.int .i64 n)
 c1:wr.cell? ⟨E,1,none⟩=some rv
 f1:wr.frozen? ⟨E,1,none⟩=false
 rows:Bv wr (E+1) rv M vals
 lb:w1.heap.size<=E
 ex:Ex w1 wr
section
variable {w1 wr w':World} {E:Nat} {n:Int} {M:List (List Int)} {rv v' l:Value} {vals:List Value} {L:List Int}
theorem Sk.later(h:Sk w1 wr E n M rv vals)(hx:Ex wr w'):Sk w1 w' E n M rv vals:=
 ⟨hx.cell h.c0,hx.cell h.c1,hx.frz h.c1 h.f1,h.rows.ex hx,h.lb,h.ex.trans hx⟩
theorem Sk.at1(h:Sk w1 wr E n M rv vals)(ha:A8 wr w' (E+1) 22 1 rv v' M.length vals [l]):w'.cell? ⟨E,1,none⟩=some rv/\w'.frozen? ⟨E,1,none⟩=false:=
 ⟨ha.cell h.c1 (fun e=>DX h.rows.cvo e.symm),ha.frz h.c1 h.f1 (fun e=>DX h.rows.cvo e.symm)⟩
theorem Sk.app1(h:Sk w1 wr E n M rv vals)(hl:wr.ownsRow (E+1) 3 1 l L.length (Am L))(h1:AJ l rv)(ha:A8 wr w' (E+1) 22 1 rv v' M.length vals [l]):
  Sk w1 (w'.setCell ⟨E,1,none⟩ v') E n (M ++ [L]) v' (vals ++ [l]):=by
 have aA:some E≠rv.ownBlock:=fun e=>DX h.rows.cvo e.symm;have hm:=h.rows.app hl h1 ha;refine⟨?_,World.cell?_setCell_same _ _ _ (ha.cell h.c1 aA),?_,hm.setNe (a:=⟨E,1,none⟩) (by show E<E+1;omega) v',h.lb,(ha.ex h.ex (by have:=h.lb;omega)).setCell (p:=⟨E,1,none⟩) h.lb _⟩
 .rw[Ag ae];exact ha.cell h.c0 aA
 .rw[Au];exact ha.frz h.c1 h.f1 aA
end
theorem Sk.new(w1:World)(n:Int):Sk w1 (w1.alloc (.cells #[.int .i64 n,.slice none 0 0] 137)) w1.heap.size n [] (.slice none 0 0) [] where
 c0:=ag
 c1:=ag
 f1:=ag
 rows:=Bv.nil _ _
 lb:=Nat.le_refl _
 ex:=(Ex.refl _).alloc _
def Hn(p m:Nat)(ml pl sl:List Int)(fr N:Nat)(rows:List (List Int))(k:Nat):List (List Int):=(rows.take k).map fun x=>il N (Ki p m ml pl sl fr x N)
theorem IR{p m:Nat}{ml pl sl:List Int}{fr N:Nat}{rows:List (List Int)}{k:Nat}(h:k<=rows.length):(Hn p m ml pl sl fr N rows k).length=k:=by
 unfold Hn;simp;omega
theorem TO{p m:Nat}{ml pl sl:List Int}{fr N:Nat}{rows:List (List Int)}{k:Nat}(h:k<rows.length):Hn p m ml pl sl fr N rows (k+1)=Hn p m ml pl sl fr N rows k ++ [il N (Ki p m ml pl sl fr (rows[k]'h) N)]:=by
 unfold Hn;rw[List.take_add_one,List.getElem?_eq_getElem h,List.map_append];rfl
def YS(p m:Int)(ml pl sl:List Int)(fr n:Int)(rows:List (List Int)):List (List Int):=Hn p.toNat m.toNat ml pl sl fr.toNat n.toNat rows rows.length
def Ys(p m:Int)(ml:List Int)(n:Int)(rows:List (List Int))(pl sl:List Int)(fr:Int)(b0:Nat)(r:Ending)(w':World):Prop:=
 ∃e1:Int,Cm p m ml n rows e1/\
  ((e1≠0/\r= .returned (.tuple #[.agg #[.int .i64 0,.int .i64 0,.slice none 0 0,.int .i64 0,.slice none 0 0],.int .i64 e1]))∨
  (e1=0/\Ck p m ml n pl sl fr≠0/\r= .returned (.tuple #[.agg #[.int .i64 0,.int .i64 0,.slice none 0 0,.int .i64 0,.slice none 0 0],.int .i64 (Ck p m ml n pl sl fr)]))∨
  (e1=0/\Ck p m ml n pl sl fr=0/\W6 p m ml n (YS p m ml pl sl fr n rows) b0 r w'))
theorem ba{P:Prop}(h:P:=by simp[results,Tryz.results39,go_sem,q0,q1,q2,q3,q4]):P:=h
theorem bz{P:Prop}(h:P:=by show B+1+1<base;omega):P:=h
theorem Se(w:World)(p m:Int)(ml:List Int)(mv:Value)(aX:Ak w mv ml)(n:Int)(rows:List (List Int))(v:Value)(hv:B6 w v rows)(pl sl:List Int)(pv sv:Value)(hp:Ak w pv pl)(hs:Ak w sv sl)(fr:Int):
  Calls Tryz.prog 39 #[.agg #[.int .i64 p,.int .i64 m,mv,.int .i64 n,v],.agg #[pv,sv,.int .i64 fr]] w fun r w'=>Ys p m ml n rows pl sl fr w.heap.size r w'/\Ex w w':=by
 obtain⟨c0,c1,c2,c3,c4,ea⟩:=Gu w p m mv n v;obtain⟨b0,b1,b2,eb⟩:=Az (w.alloc (.cells #[.int .i64 p,.int .i64 m,mv,.int .i64 n,v] 39)) pv sv fr;have bT:(w.alloc (.cells #[.int .i64 p,.int .i64 m,mv,.int .i64 n,v] 39)).heap.size=w.heap.size+1:=ag;have aL:((w.alloc (.cells #[.int .i64 p,.int .i64 m,mv,.int .i64 n,v] 39)).alloc (.cells #[pv,sv,.int .i64 fr] 26)).heap.size=w.heap.size+1+1:=ag;rw[bT]at b0 b1 b2;replace c0:=eb.cell c0;replace c1:=eb.cell c1;replace c2:=eb.cell c2;replace c3:=eb.cell c3;replace c4:=eb.cell c4;have HX:=Aa (ea.trans eb);have HM:=Aa aX;have HV:=Aa hv;have HP:=Aa hp;have HS:=Aa hs;obtain⟨va,vc,rfl,-,q1,v3⟩:=hv.open;obtain⟨ma,mc,rfl,-,q2,-⟩:=aX.open;obtain⟨pa,pc,rfl,-,q3,-⟩:=hp.open;obtain⟨sa,sc,rfl,-,q4,-⟩:=hs.open;unfold maxLen at q1 q2 q3 q4;have V3:=Aa v3;obtain⟨B,hB⟩:=nA w.heap.size;rw[hB]at c0 c1 c2 c3 c4 b0 b1 b2 aL;clear aX hv hp hs ea eb bT v3;go_enter Tryz.func39,Tryz.ntmps39
 go_upto_region 1 with fail
 try simp only[hB]
 have HB:=Aa hB;clear hB;generalize (w.alloc (.cells #[.int .i64 p,.int .i64 m,.slice ma ml.length mc,.int .i64 n,.slice va rows.length vc] 39)).alloc (.cells #[.slice pa pl.length pc,.slice sa sl.length sc,.int .i64 fr] 26)=wB at *;have bq:=WE.new wB;rw[aL]at bq;have ec:Ex wB _:=AI wB (.cells #[.int .i64 0,.int .i64 0,.slice none 0 0,.int .i64 0,.slice none 0 0] 39);have bS:(wB.alloc (.cells #[.int .i64 0,.int .i64 0,.slice none 0 0,.int .i64 0,.slice none 0 0] 39)).heap.size=B+1+1+1:=by simp[aL]
 try simp only[aL]
 generalize wB.alloc (.cells #[.int .i64 0,.int .i64 0,.slice none 0 0,.int .i64 0,.slice none 0 0] 39)=wC at *;have aA:=Aa (fun w' (h:Ex wC w')=>(⟨h.cell (ec.cell c0),h.cell (ec.cell c1),h.cell (ec.cell c2),h.cell (ec.cell c3),h.cell (ec.cell c4),h.cell (ec.cell b0),h.cell (ec.cell b1),h.cell (ec.cell b2)⟩:_/\_/\_/\_/\_/\_/\_/\_));have BQ:=Aa bq;have aB:=Aa (HX.o.trans ec);have CSZ:=Aa bS;have cC:=Aa (Dm wC p m ml _ (HM.o.ex aB.o) n rows _ (HV.o.ex aB.o));clear c0 c1 c2 c3 c4 b0 b1 b2 bq ec bS aL HX;obtain⟨c0,c1,c2,c3,c4,b0,b1,b2⟩:=aA.o wC (Ex.refl _);go_wp2_with fail
 refine cC.o.mono ?_;rintro e w2⟨⟨e1,rfl,bN⟩,aU⟩;clear c0 c1 c2 c3 c4 b0 b1 b2 cC;obtain⟨c0,c1,c2,c3,c4,b0,b1,b2⟩:=aA.o w2 aU;have aE:=Aa aU;have aJ:=Aa bN;clear aU bN;by_cases h1:e1=0
 .subst h1;have HF:=Aa (EJ aJ.o);have HR:=Aa (CQ aJ.o);have bA:=Aa (Lc w2 p m ml _ (HM.o.ex (aB.o.trans aE.o)) n pl sl _ _ (HP.o.ex (aB.o.trans aE.o)) (HS.o.ex (aB.o.trans aE.o)) fr);obtain⟨E,hE⟩:=nA (Ck p m ml n pl sl fr);rw[hE]at bA;have HE:=Aa hE;clear hE;go_wp2_with fail
  refine bA.o.mono ?_;rintro e w3⟨ho,aT⟩;clear c0 c1 c2 c3 c4 b0 b1 b2 bA;obtain⟨c0,c1,c2,c3,c4,b0,b1,b2⟩:=aA.o w3 (aE.o.trans aT);have aD:=Aa (aE.o.trans aT);clear aT aE;rcases ho with⟨rfl,b,pn,mn,x0,rfl,rfl,rfl,hg,x1,x2'⟩|⟨h0,ptr,rfl⟩
  .obtain⟨_,n1,n2,n3,n4,n5,n6,n7,_,_⟩:=Hj HE.o;obtain⟨fn,rfl⟩:∃fn:Nat,fr=fn:=⟨fr.toNat,ac⟩;obtain⟨N,rfl⟩:∃N:Nat,n=N:=⟨n.toNat,ac⟩;have HR2:=HR.o.1;have bL:∀r∈rows,r.length=N:=fun r hr=>by have:=HR.o.2 r hr;omega
   have cO:=Aa bL;have bZ:=Aa (show 1<=N/\N<=64/\ml.length<=1000 from⟨ac,ac,by have h:=hg.sh.len;have h8:=hg.sh.m8;rw[h];split <;> omega⟩);have cT:=Aa (fun (w1:World) (h1:Ex w3 w1) (x:List Int) (xv:Value) (hx:Ak w1 xv x) (cF:x.length=N)=>RM w1 (hg.ex h1) N ac pl sl x _ _ xv (HP.o.ex ((aB.o.trans aD.o).trans h1)) (HS.o.ex ((aB.o.trans aD.o).trans h1)) hx fn ac ac ac cF n5);have aR:=Aa (show YS pn mn ml pl sl fn N rows=Hn pn mn ml pl sl fn N rows rows.length from by unfold YS;simp only[Int.toNat_natCast]);clear n1 n2 n3 n4 n5 n6 n7 bL x1 x2' hg HR;go_upto_region 8 with fail
   obtain⟨F,hF⟩:=nA w3.heap.size;have aV:=Sk.new w3 (N:Int)
   try simp only[hF]
   rw[hF]at aV;have bY:=Aa aV;have HFW:=Aa hF;have ec:=AI w3 (.cells #[.int .i64 N,.slice none 0 0] 137);generalize w3.alloc (.cells #[.int .i64 N,.slice none 0 0] 137)=w4 at *;clear c0 c1 c2 c3 c4 b0 b1 b2 hF aV;obtain⟨c0,c1,c2,c3,c4,b0,b1,b2⟩:=aA.o w4 (aD.o.trans ec);have EC:=Aa ec;clear ec;go_wp2_with fail
   go_loopw [37] (fun i' wr=>∃(k:Nat) (rv:Value) (vals:List Value),k<=rows.length/\i'= .int .i64 k/\Hia (Sk w3 wr F N (Hn pn mn ml pl sl fn N rows k) rv vals)) (fun i' _=>rows.length-(intOf i').toNat)
   case atStart=>exact⟨0,_,_,ac,rfl,bY⟩
   case round=>
    clear bY c0 c1 c2 c3 c4 b0 b1 b2;obtain⟨k,rv,vals,hk,rfl,Bf⟩:=hrel;by_cases hkR:k<rows.length
    .obtain⟨rb,ro,rfl,bM⟩:=V3.o ac;obtain⟨uv,bK,aN⟩:=bM k _ (List.getElem?_eq_getElem hkR);have aP:=Aa Bf.o.ex;have cu:=((aB.o.trans aD.o).trans aP.o).cell bK;have i1:(0:Int)<=(k:Int):=by omega
     have i2:(k:Int)<(rows.length:Int):=ac;obtain⟨x,hx⟩:=nA (rows[k]);have bU:=Aa (TO (p:=pn) (m:=mn) (ml:=ml) (pl:=pl) (sl:=sl) (fr:=fn) (N:=N) hkR);have cJ:=Aa (show x.length=N from hx ▸ cO.o _ (List.getElem_mem hkR));rw[hx]at bU aN;have cL:=Aa (aN.ex ((aB.o.trans aD.o).trans aP.o));have aH:=Aa (IR (p:=pn) (m:=mn) (ml:=ml) (pl:=pl) (sl:=sl) (fr:=fn) (N:=N) hk);have aG:=Aa Bf.o;obtain⟨b0,b1,b2⟩:=(aA.o wr (aD.o.trans aP.o)).2.2.2.2.2;have t1:=Bf.o.c1;have T1F:=Aa Bf.o.f1;obtain⟨qa,qc,aW⟩:=Ac Bf.o.rows.cvo;subst aW;rw[IR ac]at t1;have bW:=Aa t1;obtain⟨ua,uc,rfl,-,u2,-⟩:=aN.open;unfold maxLen at u2;have bX:=Aa (fun (w1:World) (h1:Ex wr w1)=>cT.o w1 (aP.o.trans h1) x _ (cL.o.ex h1) cJ.o);clear bM bK aN hx Bf;go_upto_region 11 with fail
     have aF:=Aa (show Ex wr wr.drew from(Ex.refl wr).drew)
     go_region_law
      ((first
              | (refine BI bj _ _ _ bj (F+1) 22 (.slice none 0 0) 1 24 Tryz.underlying37 Bz rfl ae (.slice qa k qc) k vals bj (by have h:=Ai aG.o.rows.cvo ((aF.o.trans aI).trans (AI w5 (.cells #[.slice (some ⟨g5,0,none⟩) N N] 22)));rw[aH.o]at h;exact h) _ 1 [.slice (some ⟨g5,0,none⟩) N N] bj (Sl.own (DQ w5 (.slice (some ⟨g5,0,none⟩) N N) 22)) ak ai ac (by have:=cN.o;simp;omega) ?_;intro v8 w8 aC bP bQ;have bC:=Aa (Uk (by have h:=Ai aG.o.rows.cvo (aF.o.trans aI);rw[aH.o]at h;exact h) aC bP bQ);obtain⟨bE,cD⟩:=(aG.o.later (aF.o.trans aI)).at1 (by rw[aH.o];exact bC.o);rw[aH.o]at bE;obtain⟨va8,vc8,cI⟩:=Ac aC;subst cI)
              | (go_simp;refine(bX.o _ aF.o).mono ?_;rintro e w5⟨g5,rfl,aO,aI⟩;have t1:=aI.cell (show wr.drew.cell? ⟨F,1,none⟩=some (.slice qa k qc) from bW.o);have cE:=(AI w5 (.cells #[.slice (some ⟨g5,0,none⟩) N N] 22)).cell t1;have cN:=Aa (show F+1<=w5.heap.size from by have h1:=aO.lt;have h2:=World.block_lt_of_cell? _ _ t1;exact h2);go_simp)))
     all_goals
      have aK:=aF.o.trans aI;have aM:=aG.o.later aK;have bO:w5.ownsRow (F+1) 3 1 (.slice (some ⟨g5,0,none⟩) N N) (il N (Ki pn mn ml pl sl fn x N)).length (Am (il N (Ki pn mn ml pl sl fn x N))):=by
       rw[AY,Ch];exact Bt aO (World.block_lt_of_cell? _ _ (aF.o.cell bW.o))
      have bR:∀v2 (e2:TypeId) (n2:Nat) bD,wr.ownsRow (F+1) e2 1 v2 n2 bD->AJ (.slice (some ⟨g5,0,none⟩) N N) v2:=fun v2 e2 n2 bD h=>by
       right;show some g5≠_
       intro e;have h1:=(h.lt g5 e.symm).2;have h2:=aO.lt.1;have h3:=aF.o.size;omega
      have aZ:=Aa (aM.app1 bO (bR _ _ _ _ aG.o.rows.cvo) (by rw[aH.o];exact bC.o));rw[<-bU.o]at aZ;clear aM bO bR aK bE cD t1 cE bC aC bP bQ aO aI bX;go_wp2_with fail
      go_roundw
      case rel=>first|exact⟨k+1,_,_,ac,by go_num,aZ⟩|((repeat apply Exists.intro);exact⟨⟨k+1,_,_,ac,by go_num,aZ⟩,rfl⟩)
      case measure=>simp[intOf];omega
    .obtain rfl:k=rows.length:=by omega
     have aG:=Aa Bf.o;obtain⟨c0,c1,c2,c3,c4,-,-,-⟩:=aA.o wr (aD.o.trans Bf.o.ex);have t0:=Bf.o.c0;have t1:=Bf.o.c1;have aY:=Aa ((aB.o.trans aD.o).trans Bf.o.ex);have bV:=Aa (aD.o.trans Bf.o.ex);obtain⟨qa,qc,aW⟩:=Ac Bf.o.rows.cvo;subst aW;have aH:=Aa (IR (p:=pn) (m:=mn) (ml:=ml) (pl:=pl) (sl:=sl) (fr:=fn) (N:=N) (Nat.le_refl rows.length));have bB:=Aa (N8 wr pn mn ml _ (HM.o.ex aY.o) bZ.o.2.2 N _ _ aG.o.rows.msl (fun _=>by have:=bZ.o.1;omega));rw[aH.o]at t1 bB;clear Bf;go_wp2_with fail
     refine bB.o.mono ?_;rintro e w7⟨hc,aS⟩;obtain⟨q0,q1,q2,q3,q4,bJ,bI,bH,bG,bF⟩:=BQ.o.ex (bV.o.trans aS);have X7:=Aa (aY.o.trans aS);have hw:=HB.o;have cM:=Aa (show B+1+1<wr.heap.size from World.block_lt_of_cell? _ _ (BQ.o.ex bV.o).c0);clear aS bB;rcases hc with⟨hne,rfl⟩|⟨hne,pn',mn',N',piv,a',rv,v',e1,e2,e3,hfb,hmk,rfl,hel,hv',hrv,hb',g,blk,cap,base,hbase,rfl,hem,hp2,hr2⟩
     .have cA:=Aa hne;have HFE:=Aa aR.o;obtain⟨Z,hZ⟩:=nA (Ju pn mn ml N (Hn pn mn ml pl sl fn N rows rows.length));rw[hZ]at cA
      try rw[hZ]
      have HZ:=Aa hZ;clear hne hZ;go_wp2_with fail
      exact bodyPost_ret (v:= .tuple #[.agg #[.int .i64 0,.int .i64 0,.slice none 0 0,.int .i64 0,.slice none 0 0],.int .i64 Z]) ba rfl ⟨⟨0,aJ.o,.inr (.inr ⟨rfl,HE.o,.inl ⟨by rw[aR.o,HZ.o];exact cA.o,by rw[aR.o,HZ.o]⟩⟩)⟩,Dj X7.o ac _ _ _ _ _⟩
     .have cH:=cM.o;have cG:=aY.o.size;have cB:=Aa (((((hem.low (A:=⟨B+1+1,0,none⟩) bz (.int .i64 pn)).low (A:=⟨B+1+1,1,none⟩) bz (.int .i64 mn)).low (A:=⟨B+1+1,2,none⟩) bz v').low (A:=⟨B+1+1,3,none⟩) bz (.int .i64 N)).low (A:=⟨B+1+1,4,none⟩) bz (.slice (some ⟨g,0,none⟩) piv.length piv.length));have cV:=Aa (show ∀B',v'.ownBlock=some B'->B'≠B+1+1 from fun B' h=>by have:=hb' B' h;omega);have cU:=Aa (show ∀B',v'.ownBlock=some B'->w.heap.size<=B' from fun B' h=>by have:=hb' B' h;omega);have cS:=Aa (show w.heap.size<=base from ac);have aQ:=Aa (show Ju pn mn ml N (Hn pn mn ml pl sl fn N rows rows.length)=0/\F9 pn mn ml/\BV (pn^mn) N (Hn pn mn ml pl sl fn N rows rows.length)=0/\OF pn mn ml N (Hn pn mn ml pl sl fn N rows rows.length).length (AX (Hn pn mn ml pl sl fn N rows rows.length)) a' piv from by
       obtain rfl:pn=pn':=ac;obtain rfl:mn=mn':=ac;obtain rfl:N=N':=ac;exact⟨hne,hfb,hmk,hel⟩)
      obtain rfl:N=N':=ac;have cP:=Aa hp2;have cQ:=Aa hr2;have cR:=Aa (cB.o.msl hp2 hr2);have cK:=Aa hv';have HEQ:=Aa (show pn=pn'/\mn=mn' from⟨ac,ac⟩);obtain⟨xa,xc,rfl,-,-,-⟩:=hv'.open;clear hne hfb hmk hel hv' hrv hb' hbase hem hp2 hr2 cH cG e1 e2 e3;go_wp2_with fail
      exact bodyPost_ret (v:= .tuple #[.agg #[.int .i64 pn,.int .i64 mn,.slice xa ml.length xc,.int .i64 N,.slice (some ⟨g,0,none⟩) piv.length piv.length],.int .i64 0]) ba rfl ⟨⟨0,aJ.o,.inr (.inr ⟨rfl,HE.o,by rw[aR.o];exact .inr ⟨aQ.o.1,pn,mn,N,piv,a',_,_,rfl,rfl,rfl,aQ.o.2.1,aQ.o.2.2.1,rfl,aQ.o.2.2.2,Jb cK.o cV.o _ _ _ _ _,cR.o,cU.o,g,blk,cap,base,cS.o,rfl,cB.o,cP.o,cQ.o⟩⟩)⟩,Dj X7.o ac _ _ _ _ _⟩
  .have k1:(E==0)=false:=by simpa using h0
   obtain⟨q0,q1,q2,q3,q4,bJ,bI,bH,bG,bF⟩:=BQ.o.ex aD.o;have H0:=Aa h0;have hw:=HB.o;clear h0;go_wp2_with fail
   exact bodyPost_ret (v:= .tuple #[.agg #[.int .i64 0,.int .i64 0,.slice none 0 0,.int .i64 0,.slice none 0 0],.int .i64 E]) ba rfl ⟨⟨0,aJ.o,.inr (.inl ⟨rfl,by rw[HE.o];exact H0.o,by rw[HE.o]⟩)⟩,Dj (aB.o.trans aD.o) ac _ _ _ _ _⟩
 .have k1:(e1==0)=false:=by simpa using h1
  obtain⟨q0,q1,q2,q3,q4,bJ,bI,bH,bG,bF⟩:=BQ.o.ex aE.o;have H1:=Aa h1;have hw:=HB.o;clear h1;go_wp2_with fail
  exact bodyPost_ret (v:= .tuple #[.agg #[.int .i64 0,.int .i64 0,.slice none 0 0,.int .i64 0,.slice none 0 0],.int .i64 e1]) ba rfl ⟨⟨e1,aJ.o,.inl ⟨H1.o,rfl⟩⟩,Dj (aB.o.trans aE.o) ac _ _ _ _ _⟩
end
end Go.Proofs.YtehieobniamagaaGreat
