/- Walk of equivalence.CheckRefutation. -/
import Derived.Laws.EntriesVeiled
import Derived.Test.YtehieobniamagaaGreatZd16
namespace Go.Proofs.YtehieobniamagaaGreat
open Go.RowKit
set_option linter.all false
set_option maxRecDepth 100000
set_option maxHeartbeats 8000000
theorem boxRf(w:World)(ev:Value):(w.alloc (.cells #[ev] 94)).cell? ⟨w.heap.size,0,none⟩=some ev:=ag
def flS(c d:AU)(es:List Rf)(tl sl:List Int):Nat × Int:=Zw c.p.toNat c.m.toNat c.ml c.rows d.rows c.n.toNat es (c.n.toNat-tl.length) 0 tl sl
def ckE(E:Int)(R:Nat × Int)(es:List Rf):Int:=if E≠0 then E else if R.2=0/\R.1<es.length then 13 else R.2
theorem GN(w:World)(c d:AU)(m1 m2 v1 v2:Value)(hc:c.at w m1 v1)(hd:d.at w m2 v2)(tl sl:List Int)(tv sv:Value)(ht:Am w tv tl)(hs:Am w sv sl)(es:List Rf)(ev:Value)(hr:Qz w ev es):
  Calls Tryz.prog 133 #[c.arg m1 v1,d.arg m2 v2,.agg #[tv,sv],.agg #[ev]] w fun r w'=>(∃e1 e2:Int,BN c.p c.m c.ml c.n c.rows e1/\(e1=0->BN d.p d.m d.ml d.n d.rows e2)/\r= .returned (.int .i64 (ckE (FR e1 e2 (CR c.p c.m c.ml d.p d.m d.ml) c.n d.n tl sl (c.p.toNat^c.m.toNat)) (flS c d es tl sl) es)))/\Ex w w':=by
 obtain⟨c0,c1,c2,c3,c4⟩:=C6 w c m1 v1;obtain⟨d0,d1,d2,d3,d4⟩:=C6 (w.alloc (c.obj m1 v1)) d m2 v2;obtain⟨b0,b1,e3,aY⟩:=AT ((w.alloc (c.obj m1 v1)).alloc (d.obj m2 v2)) tv sv;have aI:=boxRf (((w.alloc (c.obj m1 v1)).alloc (d.obj m2 v2)).alloc (.cells #[tv,sv] 71)) ev;have aZ:(w.alloc (c.obj m1 v1)).heap.size=w.heap.size+1:=ag;have aO:((w.alloc (c.obj m1 v1)).alloc (d.obj m2 v2)).heap.size=w.heap.size+1+1:=ag;have e1:=AJ w (c.obj m1 v1);have e2:=AJ (w.alloc (c.obj m1 v1)) (d.obj m2 v2);have e4:=AJ (((w.alloc (c.obj m1 v1)).alloc (d.obj m2 v2)).alloc (.cells #[tv,sv] 71)) (.cells #[ev] 94);rw[aY,aO]at aI;rw[aZ]at d0 d1 d2 d3 d4;rw[aO]at b0 b1;have aC:=e1.trans (e2.trans (e3.trans e4));replace c0:=(e2.trans (e3.trans e4)).cell c0;replace c1:=(e2.trans (e3.trans e4)).cell c1;replace c2:=(e2.trans (e3.trans e4)).cell c2;replace c3:=(e2.trans (e3.trans e4)).cell c3;replace c4:=(e2.trans (e3.trans e4)).cell c4;replace d0:=(e3.trans e4).cell d0;replace d1:=(e3.trans e4).cell d1;replace d2:=(e3.trans e4).cell d2;replace d3:=(e3.trans e4).cell d3;replace d4:=(e3.trans e4).cell d4;replace b0:=e4.cell b0;replace b1:=e4.cell b1;obtain⟨B,hB⟩:=nA w.heap.size;rw[hB]at c0 c1 c2 c3 c4 d0 d1 d2 d3 d4 b0 b1 aI;have aL:=Aa (It _ c d m1 m2 v1 v2 (hc.ex aC) (hd.ex aC) tl sl tv sv (ht.ex aC) (hs.ex aC));obtain⟨ta,tc,rfl,-,t2,-⟩:=ht.open;obtain⟨sa,sc,rfl,-,s2,-⟩:=hs.open;obtain⟨x1,y1,rfl,-,z1,-⟩:=hc.g.open;obtain⟨x2,y2,rfl,-,z2,-⟩:=hd.g.open;obtain⟨x3,y3,rfl,-,z3,-⟩:=hc.m.open;obtain⟨x4,y4,rfl,-,z4,-⟩:=hd.m.open;unfold maxLen at t2 s2 z1 z2 z3 z4;obtain⟨HX,HC,HD,HT,HS,HR,aS⟩:=OK aC hc hd ht hs hr aI;obtain⟨ra,rc,rfl,bJ,-,-⟩:=OY hr;unfold maxLen at bJ;have HWB:=Aa hB;clear hc hd ht hs hr e1 e2 e3 e4 aZ aO aY aC aI;unfold AU.arg at aL ⊢;go_enter Tryz.func133,Tryz.ntmps133
 unfold AU.obj at c0 c1 c2 c3 c4 d0 d1 d2 d3 d4 b0 b1 HX aS aL;go_upto_region 1 with fail
 try simp only[hB]
 clear hB;generalize (((w.alloc (.cells #[.int .i64 c.p,.int .i64 c.m,.slice x3 c.ml.length y3,.int .i64 c.n,.slice x1 c.rows.length y1] 39)).alloc (.cells #[.int .i64 d.p,.int .i64 d.m,.slice x4 d.ml.length y4,.int .i64 d.n,.slice x2 d.rows.length y2] 39)).alloc (.cells #[.slice ta tl.length tc,.slice sa sl.length sc] 71)).alloc (.cells #[.slice ra es.length rc] 94)=w1 at *;have B0:=Aa b0;have B1:=Aa b1;go_wp2_with fail
 refine aL.o.mono ?_;rintro e w3⟨ho,bA⟩;have aK:=Aa bA;obtain⟨e1,e2,bC,aF,ho⟩:=ho;have aM:=Aa bC;have bE:=Aa aF;clear c0 c1 c2 c3 c4 d0 d1 d2 d3 d4 bA bC aF aL b0 b1;obtain⟨E,hE⟩:=nA (FR e1 e2 (CR c.p c.m c.ml d.p d.m d.ml) c.n d.n tl sl (c.p.toNat^c.m.toNat));rw[hE]at ho;have HE:=Aa hE;rcases ho with⟨h0,ptr,rfl⟩|⟨h0,w2,A,b,x0,pn,mn,nn,hp,hm,hnn,rfl,hx2,hg,hx01,hx02,hA,hx23,hpr,h11,hf11⟩
 .have hb0:(E !=0)=true:=by simpa using h0
  have H0:=Aa h0;clear h0 hE;go_wp2_with fail
  go_ret;refine⟨⟨e1,e2,aM.o,bE.o,?_⟩,(HX.o.trans aK.o).alloc _⟩;rw[HE.o];unfold ckE;rw[if_pos H0.o];rfl
 .subst h0;obtain⟨k1,k2,k3,k4,k5,k6,k7,k8,k9⟩:=QH hE;subst k1;have aF:=bE.o rfl;subst k2;obtain⟨aX,aV⟩:=Dk aM.o;obtain⟨aW,aU⟩:=Dk aF;obtain⟨-,bI,bH⟩:=Du aM.o;obtain⟨SB,aJ⟩:∃B,w3.heap.size=B:=⟨_,rfl⟩;have aA:=HX.o.trans hx2;have b0:=aK.o.cell B0.o;have b1:=aK.o.cell B1.o;have r0:=aK.o.cell aS.o;have HK:=Aa (show c.n=d.n/\tl.length=sl.length/\(tl.length:Int)<=c.n/\BU tl c.n=true from⟨k4,k5,k6,k7⟩);have aB:=Aa (show c.p=pn/\c.m=mn/\c.n=nn from⟨hp,hm,hnn⟩);clear aS hp hm hnn k3 k4 k5 k6 k7 k8 k9 hE;go_upto_region 7 with fail
  have f1:=AJ w3 (.cells #[.pointer (some ⟨A,0,none⟩)] 186);have f2:=AJ (w3.alloc (.cells #[.pointer (some ⟨A,0,none⟩)] 186)) (.cells #[.int .i64 0] 3);have f3:=AJ ((w3.alloc (.cells #[.pointer (some ⟨A,0,none⟩)] 186)).alloc (.cells #[.int .i64 0] 3)) (.cells #[IS (SB+1) (B+1+1+1) SB (SB+1+1)] 216);have aT:(w3.alloc (.cells #[.pointer (some ⟨A,0,none⟩)] 186)).cell? ⟨SB,0,none⟩=some (.pointer (some ⟨A,0,none⟩)):=AZ _ _ _ aJ;have aH:(w3.alloc (.cells #[.pointer (some ⟨A,0,none⟩)] 186)).heap.size=SB+1:=by simp[aJ]
  have aR:((w3.alloc (.cells #[.pointer (some ⟨A,0,none⟩)] 186)).alloc (.cells #[.int .i64 0] 3)).cell? ⟨SB+1,0,none⟩=some (.int .i64 0):=AZ _ _ _ aH;have bD:((w3.alloc (.cells #[.pointer (some ⟨A,0,none⟩)] 186)).alloc (.cells #[.int .i64 0] 3)).frozen? ⟨SB+1,0,none⟩=false:=FJ _ _ _ aH;have bB:((w3.alloc (.cells #[.pointer (some ⟨A,0,none⟩)] 186)).alloc (.cells #[.int .i64 0] 3)).heap.size=SB+1+1:=by simp[aJ]
  have aQ:(((w3.alloc (.cells #[.pointer (some ⟨A,0,none⟩)] 186)).alloc (.cells #[.int .i64 0] 3)).alloc (.cells #[IS (SB+1) (B+1+1+1) SB (SB+1+1)] 216)).cell? ⟨SB+1+1,0,none⟩=some (IS (SB+1) (B+1+1+1) SB (SB+1+1)):=AZ _ _ _ bB;have aD:=hx23.trans f1;have aG:=Aa (show CkE pn mn c.ml c.rows d.rows nn A b x0 (B+1+1+1) SB (.slice x1 c.rows.length y1) (.slice x2 d.rows.length y2) (.slice ra es.length rc) es (w3.alloc (.cells #[.pointer (some ⟨A,0,none⟩)] 186)) from
   { pr:=hpr.ex f1,gf:=hg.ex aD,m1:=(HC.o.g.ex aA).ex aD,m2:=(HD.o.g.ex aA).ex aD,x1:=hx01,x2:=hx02,n64:=by have:=aB.o.2.2;omega,r1:=fun r hr=>by have:=aV r hr;have:=aB.o.2.2;omega,r2:=fun r hr=>by have:=aU r hr;have:=aB.o.2.2;have:=HK.o.1;omega,k1:=aX,k2:=aW,rb:=f1.cell r0,sb:=aT,rs:=(HR.o.ex aA).ex aD })
  have bF:=Aa (show F4 (w3.alloc (.cells #[.pointer (some ⟨A,0,none⟩)] 186)) (SB+1) (SB+1+1) (IS (SB+1) (B+1+1+1) SB (SB+1+1)) es.length 0 (((w3.alloc (.cells #[.pointer (some ⟨A,0,none⟩)] 186)).alloc (.cells #[.int .i64 0] 3)).alloc (.cells #[IS (SB+1) (B+1+1+1) SB (SB+1+1)] 216)) from
   { ex:=f2.trans f3,c:=f3.cell aR,f:=f3.frz aR bD,fb:=aQ,ne:=ac,lb:=by rw[aH];omega,le:=Nat.zero_le _ })
  have HP:=Aa (fun (v:Value) (l:List Int) (h:Am w v l)=>show CO (Tq (SB+1)) (((w3.alloc (.cells #[.pointer (some ⟨A,0,none⟩)] 186)).alloc (.cells #[.int .i64 0] 3)).alloc (.cells #[IS (SB+1) (B+1+1+1) SB (SB+1+1)] 216)) v l from by
   refine⟨h.ex (((aA.trans hx23).trans f1).trans (f2.trans f3)),fun hl X hX hd=>?_⟩;have h2:=h.ex (aA.trans hx23);obtain⟨a,cap,rfl,-,-,h5⟩:=h2.open;obtain⟨b',o,rfl,h6⟩:=h5 (List.length_pos_iff.2 hl);injection hX with hX;have hX:b'=X:=hX;have:=World.block_lt_of_cell? _ _ (h6 0 _ (Bc (List.length_pos_iff.2 hl)));have hd:X=SB+1:=hd;simp only at this;omega)
  have b0:=(f1.trans (f2.trans f3)).cell b0;have b1:=(f1.trans (f2.trans f3)).cell b1;have r0:=(f1.trans (f2.trans f3)).cell r0;have aN:=Aa (Rq aG.o (nn-tl.length) 0 _ tl sl (.slice ta tl.length tc) (.slice sa sl.length sc) (by have:=HK.o.2.2.1;have:=aB.o.2.2;omega) HK.o.2.1.symm (by have:=HK.o.2.2.2;rw[aB.o.2.2]at this;exact this) (fun h=>absurd rfl h) bF.o (HP.o _ _ HT.o) (HP.o _ _ HS.o));have hR:Zw pn mn c.ml c.rows d.rows nn es (nn-tl.length) 0 tl sl=flS c d es tl sl:=by
   unfold flS;rw[aB.o.1,aB.o.2.1,aB.o.2.2];rfl
  rw[hR]at aN;have fb1:=Aa aQ;unfold IS at b0 b1 r0 aQ aN bF f3;have bK:=Aa (aA.trans aD);have bG:=aG.o.rb;clear aD aA aH bB aT aR bD f1 f2 HP hx23 hpr hg hx01 hx02 hA h11 hf11 hx2 aX aW aV aU bI bH hR;generalize ((w3.alloc (.cells #[.pointer (some ⟨A,0,none⟩)] 186)).alloc (.cells #[.int .i64 0] 3)).alloc (.cells #[.func (.func 180) #[] #[.pointer (some ⟨SB+1,0,none⟩),.pointer (some ⟨B+1+1+1,0,none⟩),.pointer (some ⟨SB,0,none⟩),.pointer (some ⟨SB+1+1,0,none⟩)]] 216)=w6 at *;obtain⟨R,hR⟩:=nA (flS c d es tl sl);rw[hR]at aN;have bM:=Aa hR
  try simp only[aJ]
  clear hR;have aP:R.1<=es.length∨True:=Or.inr trivial;clear aP;go_wp2_with (go_at_call 180;refine aN.o.mono ?_;rintro e7 w7⟨rfl,aE,-⟩;have bL:=Aa aE;have a7:=aE.c;have r7:=aE.ex.cell bG;have hl7:=aE.le;clear aE)
  all_goals
   go_ret;refine⟨⟨0,0,aM.o,fun _=>aF,?_⟩,bK.o.trans bL.o.ex⟩;rw[HE.o,bM.o];unfold ckE
   simp_all
structure UC(w1 wr:World)(E:Nat)(n:Int)(M:List (List Int))(rv:Value)(vals:List Value):Prop where
 c0:wr.cell? ⟨E,0,none⟩=some (.int .i64 n)
 c1:wr.cell? ⟨E,1,none⟩=some rv
 f1:wr.frozen? ⟨E,1,none⟩=false
 rows:Bv wr (E+1) rv M vals
 lb:w1.heap.size<=E
 ex:Ex w1 wr
section
variable {w1 wr w':World} {E:Nat} {n:Int} {M:List (List Int)} {rv v' l:Value} {vals:List Value} {L:List Int}
theorem UC.later(h:UC w1 wr E n M rv vals)(hx:Ex wr w'):UC w1 w' E n M rv vals:=
 ⟨hx.cell h.c0,hx.cell h.c1,hx.frz h.c1 h.f1,h.rows.ex hx,h.lb,h.ex.trans hx⟩
theorem UC.at1(h:UC w1 wr E n M rv vals)(ha:Bn wr w' (E+1) 22 1 rv v' M.length vals [l]):w'.cell? ⟨E,1,none⟩=some rv/\w'.frozen? ⟨E,1,none⟩=false:=
 ⟨ha.cell h.c1 (fun e=>Et h.rows.cvo e.symm),ha.frz h.c1 h.f1 (fun e=>Et h.rows.cvo e.symm)⟩
theorem UC.app1(h:UC w1 wr E n M rv vals)(hl:wr.ownsRow (E+1) 3 1 l L.length (Ao L))(h1:AQ l rv)(ha:Bn wr w' (E+1) 22 1 rv v' M.length vals [l]):
  UC w1 (w'.setCell ⟨E,1,none⟩ v') E n (M ++ [L]) v' (vals ++ [l]):=by
 have aA:some E≠rv.ownBlock:=fun e=>Et h.rows.cvo e.symm;have hm:=h.rows.app hl h1 ha;refine⟨?_,World.cell?_setCell_same _ _ _ (ha.cell h.c1 aA),?_,hm.setNe (a:=⟨E,1,none⟩) (by show E<E+1;omega) v',h.lb,(ha.ex h.ex (by have:=h.lb;omega)).setCell (p:=⟨E,1,none⟩) h.lb _⟩
 .exact zaZ
 .rw[Ay];exact ha.frz h.c1 h.f1 aA
end
theorem UC.new(w1:World)(n:Int):UC w1 (w1.alloc (.cells #[.int .i64 n,.slice none 0 0] 137)) w1.heap.size n [] (.slice none 0 0) [] where
 c0:=ag
 c1:=ag
 f1:=ag
 rows:=Bv.nil _ _
 lb:=Nat.le_refl _
 ex:=(Ex.refl _).alloc _
def IR(p m:Nat)(ml pl sl:List Int)(fr N:Nat)(rows:List (List Int))(k:Nat):List (List Int):=(rows.take k).map fun x=>il N (Lz p m ml pl sl fr x N)
theorem JK{p m:Nat}{ml pl sl:List Int}{fr N:Nat}{rows:List (List Int)}{k:Nat}(h:k<=rows.length):(IR p m ml pl sl fr N rows k).length=k:=by
 unfold IR;simp;omega
theorem VZ{p m:Nat}{ml pl sl:List Int}{fr N:Nat}{rows:List (List Int)}{k:Nat}(h:k<rows.length):IR p m ml pl sl fr N rows (k+1)=IR p m ml pl sl fr N rows k ++ [il N (Lz p m ml pl sl fr (rows[k]'h) N)]:=by
 unfold IR;rw[List.take_add_one,List.getElem?_eq_getElem h,List.map_append];rfl
def imA(p m:Int)(ml pl sl:List Int)(fr n:Int)(rows:List (List Int)):List (List Int):=IR p.toNat m.toNat ml pl sl fr.toNat n.toNat rows rows.length
def AppR(p m:Int)(ml:List Int)(n:Int)(rows:List (List Int))(pl sl:List Int)(fr:Int)(b0:Nat)(r:Ending)(w':World):Prop:=
 ∃e1:Int,BN p m ml n rows e1/\
  ((e1≠0/\r= .returned (.tuple #[.agg #[.int .i64 0,.int .i64 0,.slice none 0 0,.int .i64 0,.slice none 0 0],.int .i64 e1]))∨
  (e1=0/\Ey p m ml n pl sl fr≠0/\r= .returned (.tuple #[.agg #[.int .i64 0,.int .i64 0,.slice none 0 0,.int .i64 0,.slice none 0 0],.int .i64 (Ey p m ml n pl sl fr)]))∨
  (e1=0/\Ey p m ml n pl sl fr=0/\ZK p m ml n (imA p m ml pl sl fr n rows) b0 r w'))
theorem bf{P:Prop}(h:P:=by simp[results,Tryz.results39,go_sem,q0,q1,q2,q3,q4]):P:=h
theorem b9{P:Prop}(h:P:=by show B+1+1<base;omega):P:=h
theorem Uy(w:World)(p m:Int)(ml:List Int)(mv:Value)(aX:Am w mv ml)(n:Int)(rows:List (List Int))(v:Value)(hv:BO w v rows)(pl sl:List Int)(pv sv:Value)(hp:Am w pv pl)(hs:Am w sv sl)(fr:Int):
  Calls Tryz.prog 39 #[.agg #[.int .i64 p,.int .i64 m,mv,.int .i64 n,v],.agg #[pv,sv,.int .i64 fr]] w fun r w'=>AppR p m ml n rows pl sl fr w.heap.size r w'/\Ex w w':=by
 obtain⟨c0,c1,c2,c3,c4,ea⟩:=DP w p m mv n v;obtain⟨b0,b1,b2,eb⟩:=Bo (w.alloc (.cells #[.int .i64 p,.int .i64 m,mv,.int .i64 n,v] 39)) pv sv fr;have bT:(w.alloc (.cells #[.int .i64 p,.int .i64 m,mv,.int .i64 n,v] 39)).heap.size=w.heap.size+1:=ag;have aL:((w.alloc (.cells #[.int .i64 p,.int .i64 m,mv,.int .i64 n,v] 39)).alloc (.cells #[pv,sv,.int .i64 fr] 26)).heap.size=w.heap.size+1+1:=ag;rw[bT]at b0 b1 b2;replace c0:=eb.cell c0;replace c1:=eb.cell c1;replace c2:=eb.cell c2;replace c3:=eb.cell c3;replace c4:=eb.cell c4;obtain⟨HX,HM,HV,HP,HS⟩:=Of (ea.trans eb) aX hv hp hs;obtain⟨va,vc,rfl,-,q1,v3⟩:=hv.open;obtain⟨ma,mc,rfl,-,q2,-⟩:=aX.open;obtain⟨pa,pc,rfl,-,q3,-⟩:=hp.open;obtain⟨sa,sc,rfl,-,q4,-⟩:=hs.open;unfold maxLen at q1 q2 q3 q4;have V3:=Aa v3;obtain⟨B,hB⟩:=nA w.heap.size;rw[hB]at c0 c1 c2 c3 c4 b0 b1 b2 aL;clear aX hv hp hs ea eb bT v3;go_enter Tryz.func39,Tryz.ntmps39
 go_upto_region 1 with fail
 try simp only[hB]
 have HB:=Aa hB;clear hB;generalize (w.alloc (.cells #[.int .i64 p,.int .i64 m,.slice ma ml.length mc,.int .i64 n,.slice va rows.length vc] 39)).alloc (.cells #[.slice pa pl.length pc,.slice sa sl.length sc,.int .i64 fr] 26)=wB at *;have bq:=Xc.new wB;rw[aL]at bq;have ec:Ex wB _:=AJ wB (.cells #[.int .i64 0,.int .i64 0,.slice none 0 0,.int .i64 0,.slice none 0 0] 39);have bS:(wB.alloc (.cells #[.int .i64 0,.int .i64 0,.slice none 0 0,.int .i64 0,.slice none 0 0] 39)).heap.size=B+1+1+1:=by simp[aL]
 try simp only[aL]
 generalize wB.alloc (.cells #[.int .i64 0,.int .i64 0,.slice none 0 0,.int .i64 0,.slice none 0 0] 39)=wC at *;obtain⟨aA,BQ,aB,CSZ⟩:=Eq (fun w' (h:Ex wC w')=>(⟨h.cell (ec.cell c0),h.cell (ec.cell c1),h.cell (ec.cell c2),h.cell (ec.cell c3),h.cell (ec.cell c4),h.cell (ec.cell b0),h.cell (ec.cell b1),h.cell (ec.cell b2)⟩:_/\_/\_/\_/\_/\_/\_/\_)) bq (HX.o.trans ec) bS;have cC:=Aa (CZ wC p m ml _ (HM.o.ex aB.o) n rows _ (HV.o.ex aB.o));clear c0 c1 c2 c3 c4 b0 b1 b2 bq ec bS aL HX;obtain⟨c0,c1,c2,c3,c4,b0,b1,b2⟩:=aA.o wC (Ex.refl _);go_wp2_with fail
 refine cC.o.mono ?_;rintro e w2⟨⟨e1,rfl,bN⟩,aU⟩;clear c0 c1 c2 c3 c4 b0 b1 b2 cC;obtain⟨c0,c1,c2,c3,c4,b0,b1,b2⟩:=aA.o w2 aU;have aE:=Aa aU;have aJ:=Aa bN;clear aU bN;by_cases h1:e1=0
 .subst h1;have HF:=Aa (Du aJ.o);have HR:=Aa (Dk aJ.o);have bA:=Aa (MH w2 p m ml _ (HM.o.ex (aB.o.trans aE.o)) n pl sl _ _ (HP.o.ex (aB.o.trans aE.o)) (HS.o.ex (aB.o.trans aE.o)) fr);obtain⟨E,hE⟩:=nA (Ey p m ml n pl sl fr);rw[hE]at bA;have HE:=Aa hE;clear hE;go_wp2_with fail
  refine bA.o.mono ?_;rintro e w3⟨ho,aT⟩;clear c0 c1 c2 c3 c4 b0 b1 b2 bA;obtain⟨c0,c1,c2,c3,c4,b0,b1,b2⟩:=aA.o w3 (aE.o.trans aT);have aD:=Aa (aE.o.trans aT);clear aT aE;rcases ho with⟨rfl,b,pn,mn,x0,rfl,rfl,rfl,hg,x1,x2'⟩|⟨h0,ptr,rfl⟩
  .obtain⟨_,n1,n2,n3,n4,n5,n6,n7,_,_⟩:=Rb HE.o;obtain⟨fn,rfl⟩:∃fn:Nat,fr=fn:=⟨fr.toNat,ac⟩;obtain⟨N,rfl⟩:∃N:Nat,n=N:=⟨n.toNat,ac⟩;have HR2:=HR.o.1;have bL:∀r∈rows,r.length=N:=fun r hr=>by have:=HR.o.2 r hr;omega
   obtain⟨cO,bZ,cT,aR⟩:=Eq bL (show 1<=N/\N<=64/\ml.length<=1000 from⟨ac,ac,by have h:=hg.sh.len;have h8:=hg.sh.m8;rw[h];split <;> omega⟩) (fun (w1:World) (h1:Ex w3 w1) (x:List Int) (xv:Value) (hx:Am w1 xv x) (cF:x.length=N)=>Ud w1 (hg.ex h1) N ac pl sl x _ _ xv (HP.o.ex ((aB.o.trans aD.o).trans h1)) (HS.o.ex ((aB.o.trans aD.o).trans h1)) hx fn ac ac ac cF n5) (show imA pn mn ml pl sl fn N rows=IR pn mn ml pl sl fn N rows rows.length from by unfold imA;simp only[Int.toNat_natCast]);clear n1 n2 n3 n4 n5 n6 n7 bL x1 x2' hg HR;go_upto_region 8 with fail
   obtain⟨F,hF⟩:=nA w3.heap.size;have aV:=UC.new w3 (N:Int)
   try simp only[hF]
   rw[hF]at aV;have bY:=Aa aV;have HFW:=Aa hF;have ec:=AJ w3 (.cells #[.int .i64 N,.slice none 0 0] 137);generalize w3.alloc (.cells #[.int .i64 N,.slice none 0 0] 137)=w4 at *;clear c0 c1 c2 c3 c4 b0 b1 b2 hF aV;obtain⟨c0,c1,c2,c3,c4,b0,b1,b2⟩:=aA.o w4 (aD.o.trans ec);have EC:=Aa ec;clear ec;go_wp2_with fail
   go_loopw [37] (fun i' wr=>∃(k:Nat) (rv:Value) (vals:List Value),k<=rows.length/\i'= .int .i64 k/\Hia (UC w3 wr F N (IR pn mn ml pl sl fn N rows k) rv vals)) (fun i' _=>rows.length-(intOf i').toNat)
   case atStart=>exact⟨0,_,_,ac,rfl,bY⟩
   case round=>
    clear bY c0 c1 c2 c3 c4 b0 b1 b2;obtain⟨k,rv,vals,hk,rfl,BC⟩:=hrel;by_cases hkR:k<rows.length
    .obtain⟨rb,ro,rfl,bM⟩:=V3.o ac;obtain⟨uv,bK,aN⟩:=bM k _ (List.getElem?_eq_getElem hkR);have aP:=Aa BC.o.ex;have cu:=((aB.o.trans aD.o).trans aP.o).cell bK;have i1:(0:Int)<=(k:Int):=by omega
     have i2:(k:Int)<(rows.length:Int):=ac;obtain⟨x,hx⟩:=nA (rows[k]);have bU:=Aa (VZ (p:=pn) (m:=mn) (ml:=ml) (pl:=pl) (sl:=sl) (fr:=fn) (N:=N) hkR);have cJ:=Aa (show x.length=N from hx ▸ cO.o _ (List.getElem_mem hkR));rw[hx]at bU aN;have cL:=Aa (aN.ex ((aB.o.trans aD.o).trans aP.o));have aH:=Aa (JK (p:=pn) (m:=mn) (ml:=ml) (pl:=pl) (sl:=sl) (fr:=fn) (N:=N) hk);have aG:=Aa BC.o;obtain⟨b0,b1,b2⟩:=(aA.o wr (aD.o.trans aP.o)).2.2.2.2.2;have t1:=BC.o.c1;have T1F:=Aa BC.o.f1;obtain⟨qa,qc,aW⟩:=Ad BC.o.rows.cvo;subst aW;rw[JK ac]at t1;have bW:=Aa t1;obtain⟨ua,uc,rfl,-,u2,-⟩:=aN.open;unfold maxLen at u2;have bX:=Aa (fun (w1:World) (h1:Ex wr w1)=>cT.o w1 (aP.o.trans h1) x _ (cL.o.ex h1) cJ.o);clear bM bK aN hx BC;go_upto_region 11 with fail
     have aF:=Aa (show Ex wr wr.drew from(Ex.refl wr).drew)
     go_region_law
      ((first
              | (refine Ci bp _ _ _ bp (F+1) 22 (.slice none 0 0) 1 24 Tryz.underlying37 BH rfl ae (.slice qa k qc) k vals bp (by have h:=Aj aG.o.rows.cvo ((aF.o.trans aI).trans (AJ w5 (.cells #[.slice (some ⟨g5,0,none⟩) N N] 22)));rw[aH.o]at h;exact h) _ 1 [.slice (some ⟨g5,0,none⟩) N N] bp (Sl.own (Fi w5 (.slice (some ⟨g5,0,none⟩) N N) 22)) aj ai ac (by have:=cN.o;simp;omega) ?_;intro v8 w8 aC bP bQ;have bC:=Aa (Ws (by have h:=Aj aG.o.rows.cvo (aF.o.trans aI);rw[aH.o]at h;exact h) aC bP bQ);obtain⟨bE,cD⟩:=(aG.o.later (aF.o.trans aI)).at1 (by rw[aH.o];exact bC.o);rw[aH.o]at bE;obtain⟨va8,vc8,cI⟩:=Ad aC;subst cI)
              | (go_simp;refine(bX.o _ aF.o).mono ?_;rintro e w5⟨g5,rfl,aO,aI⟩;have t1:=aI.cell (show wr.drew.cell? ⟨F,1,none⟩=some (.slice qa k qc) from bW.o);have cE:=(AJ w5 (.cells #[.slice (some ⟨g5,0,none⟩) N N] 22)).cell t1;have cN:=Aa (show F+1<=w5.heap.size from by have h1:=aO.lt;have h2:=World.block_lt_of_cell? _ _ t1;exact h2);go_simp)))
     all_goals
      have aK:=aF.o.trans aI;have aM:=aG.o.later aK;have bO:w5.ownsRow (F+1) 3 1 (.slice (some ⟨g5,0,none⟩) N N) (il N (Lz pn mn ml pl sl fn x N)).length (Ao (il N (Lz pn mn ml pl sl fn x N))):=by
       rw[AF,Cf];exact A5 aO (World.block_lt_of_cell? _ _ (aF.o.cell bW.o))
      have bR:∀v2 (e2:TypeId) (n2:Nat) bD,wr.ownsRow (F+1) e2 1 v2 n2 bD->AQ (.slice (some ⟨g5,0,none⟩) N N) v2:=fun v2 e2 n2 bD h=>by
       right;show some g5≠_
       intro e;have h1:=(h.lt g5 e.symm).2;have h2:=aO.lt.1;have h3:=aF.o.size;omega
      have aZ:=Aa (aM.app1 bO (bR _ _ _ _ aG.o.rows.cvo) (by rw[aH.o];exact bC.o));rw[<-bU.o]at aZ;clear aM bO bR aK bE cD t1 cE bC aC bP bQ aO aI bX;go_wp2_with fail
      go_roundw
      case rel=>first|exact⟨k+1,_,_,ac,by go_num,aZ⟩|((repeat apply Exists.intro);exact⟨⟨k+1,_,_,ac,by go_num,aZ⟩,rfl⟩)
      case measure=>simp[intOf];omega
    .obtain rfl:k=rows.length:=by omega
     have aG:=Aa BC.o;obtain⟨c0,c1,c2,c3,c4,-,-,-⟩:=aA.o wr (aD.o.trans BC.o.ex);have t0:=BC.o.c0;have t1:=BC.o.c1;have aY:=Aa ((aB.o.trans aD.o).trans BC.o.ex);have bV:=Aa (aD.o.trans BC.o.ex);obtain⟨qa,qc,aW⟩:=Ad BC.o.rows.cvo;subst aW;have aH:=Aa (JK (p:=pn) (m:=mn) (ml:=ml) (pl:=pl) (sl:=sl) (fr:=fn) (N:=N) (Nat.le_refl rows.length));have bB:=Aa (P7 wr pn mn ml _ (HM.o.ex aY.o) bZ.o.2.2 N _ _ aG.o.rows.msl (fun _=>by have:=bZ.o.1;omega));rw[aH.o]at t1 bB;clear BC;go_wp2_with fail
     refine bB.o.mono ?_;rintro e w7⟨hc,aS⟩;obtain⟨q0,q1,q2,q3,q4,bJ,bI,bH,bG,bF⟩:=BQ.o.ex (bV.o.trans aS);have X7:=Aa (aY.o.trans aS);have hw:=HB.o;have cM:=Aa (show B+1+1<wr.heap.size from World.block_lt_of_cell? _ _ (BQ.o.ex bV.o).c0);clear aS bB;rcases hc with⟨hne,rfl⟩|⟨hne,pn',mn',N',piv,a',rv,v',e1,e2,e3,hfb,hmk,rfl,hel,hv',hrv,hb',g,blk,cap,base,hbase,rfl,hem,hp2,hr2⟩
     .have cA:=Aa hne;have HFE:=Aa aR.o;obtain⟨Z,hZ⟩:=nA (Kq pn mn ml N (IR pn mn ml pl sl fn N rows rows.length));rw[hZ]at cA
      try rw[hZ]
      have HZ:=Aa hZ;clear hne hZ;go_wp2_with fail
      exact bodyPost_ret (v:= .tuple #[.agg #[.int .i64 0,.int .i64 0,.slice none 0 0,.int .i64 0,.slice none 0 0],.int .i64 Z]) bf rfl ⟨⟨0,aJ.o,.inr (.inr ⟨rfl,HE.o,.inl ⟨by rw[aR.o,HZ.o];exact cA.o,by rw[aR.o,HZ.o]⟩⟩)⟩,C9 X7.o ac _ _ _ _ _⟩
     .have cH:=cM.o;have cG:=aY.o.size;obtain⟨cB,cV,cU,cS⟩:=Eq (((((hem.low (A:=⟨B+1+1,0,none⟩) b9 (.int .i64 pn)).low (A:=⟨B+1+1,1,none⟩) b9 (.int .i64 mn)).low (A:=⟨B+1+1,2,none⟩) b9 v').low (A:=⟨B+1+1,3,none⟩) b9 (.int .i64 N)).low (A:=⟨B+1+1,4,none⟩) b9 (.slice (some ⟨g,0,none⟩) piv.length piv.length)) (show ∀B',v'.ownBlock=some B'->B'≠B+1+1 from fun B' h=>by have:=hb' B' h;omega) (show ∀B',v'.ownBlock=some B'->w.heap.size<=B' from fun B' h=>by have:=hb' B' h;omega) (show w.heap.size<=base from ac);have aQ:=Aa (show Kq pn mn ml N (IR pn mn ml pl sl fn N rows rows.length)=0/\EG pn mn ml/\BL (pn^mn) N (IR pn mn ml pl sl fn N rows rows.length)=0/\Iq pn mn ml N (IR pn mn ml pl sl fn N rows rows.length).length (Ak (IR pn mn ml pl sl fn N rows rows.length)) a' piv from by
       obtain rfl:pn=pn':=ac;obtain rfl:mn=mn':=ac;obtain rfl:N=N':=ac;exact⟨hne,hfb,hmk,hel⟩)
      obtain rfl:N=N':=ac;obtain⟨cP,cQ,cR,cK,HEQ⟩:=Of hp2 hr2 (cB.o.msl hp2 hr2) hv' (show pn=pn'/\mn=mn' from⟨ac,ac⟩);obtain⟨xa,xc,rfl,-,-,-⟩:=hv'.open;clear hne hfb hmk hel hv' hrv hb' hbase hem hp2 hr2 cH cG e1 e2 e3;go_wp2_with fail
      exact bodyPost_ret (v:= .tuple #[.agg #[.int .i64 pn,.int .i64 mn,.slice xa ml.length xc,.int .i64 N,.slice (some ⟨g,0,none⟩) piv.length piv.length],.int .i64 0]) bf rfl ⟨⟨0,aJ.o,.inr (.inr ⟨rfl,HE.o,by rw[aR.o];exact .inr ⟨aQ.o.1,pn,mn,N,piv,a',_,_,rfl,rfl,rfl,aQ.o.2.1,aQ.o.2.2.1,rfl,aQ.o.2.2.2,Hm cK.o cV.o _ _ _ _ _,cR.o,cU.o,g,blk,cap,base,cS.o,rfl,cB.o,cP.o,cQ.o⟩⟩)⟩,C9 X7.o ac _ _ _ _ _⟩
  .have k1:(E==0)=false:=by simpa using h0
   obtain⟨q0,q1,q2,q3,q4,bJ,bI,bH,bG,bF⟩:=BQ.o.ex aD.o;have H0:=Aa h0;have hw:=HB.o;clear h0;go_wp2_with fail
   exact bodyPost_ret (v:= .tuple #[.agg #[.int .i64 0,.int .i64 0,.slice none 0 0,.int .i64 0,.slice none 0 0],.int .i64 E]) bf rfl ⟨⟨0,aJ.o,.inr (.inl ⟨rfl,by rw[HE.o];exact H0.o,by rw[HE.o]⟩)⟩,C9 (aB.o.trans aD.o) ac _ _ _ _ _⟩
 .have k1:(e1==0)=false:=by simpa using h1
  obtain⟨q0,q1,q2,q3,q4,bJ,bI,bH,bG,bF⟩:=BQ.o.ex aE.o;have H1:=Aa h1;have hw:=HB.o;clear h1;go_wp2_with fail
  exact bodyPost_ret (v:= .tuple #[.agg #[.int .i64 0,.int .i64 0,.slice none 0 0,.int .i64 0,.slice none 0 0],.int .i64 e1]) bf rfl ⟨⟨e1,aJ.o,.inl ⟨H1.o,rfl⟩⟩,C9 (aB.o.trans aE.o) ac _ _ _ _ _⟩
theorem Qo(w:World)(pl sl ql tl:List Int)(pv sv qv tv:Value)(hp:Am w pv pl)(hs:Am w sv sl)(hq:Am w qv ql)(ht:Am w tv tl)(fr fs:Int):
  Calls Tryz.prog 20 #[.agg #[pv,sv,.int .i64 fr],.agg #[qv,tv,.int .i64 fs]] w fun r w'=>r= .returned (.bool (decide (fr=fs/\pl=ql/\sl=tl)))/\Ex w w':=by
 obtain⟨a0,a1,a2,ea⟩:=Bo w pv sv fr;obtain⟨b0,b1,b2,eb⟩:=Bo (w.alloc (.cells #[pv,sv,.int .i64 fr] 26)) qv tv fs;have aF:(w.alloc (.cells #[pv,sv,.int .i64 fr] 26)).heap.size=w.heap.size+1:=ag;rw[aF]at b0 b1 b2;replace a0:=eb.cell a0;replace a1:=eb.cell a1;replace a2:=eb.cell a2;obtain⟨HX,HP,HS,HQ,HT⟩:=Of (ea.trans eb) hp hs hq ht;obtain⟨pa,pc,rfl,-,q1,-⟩:=hp.open;obtain⟨sa,sc,rfl,-,q2,-⟩:=hs.open;obtain⟨qa,qc,rfl,-,q3,-⟩:=hq.open;obtain⟨ta,tc,rfl,-,q4,-⟩:=ht.open;unfold maxLen at q1 q2 q3 q4;obtain⟨B,hB⟩:=nA w.heap.size;rw[hB]at a0 a1 a2 b0 b1 b2;clear hp hs hq ht ea eb aF;go_enter Tryz.func20,Tryz.ntmps20
 go_upto_region 1 with fail
 try simp only[hB]
 clear hB;generalize (w.alloc (.cells #[.slice pa pl.length pc,.slice sa sl.length sc,.int .i64 fr] 26)).alloc (.cells #[.slice qa ql.length qc,.slice ta tl.length tc,.int .i64 fs] 26)=w1 at *;have aE:=Aa (fun w' (h:Ex w1 w')=>(⟨h.cell a0,h.cell a1,h.cell b0,h.cell b1⟩:_/\_/\_/\_));have aD:=Aa (Dv w1 pl ql _ _ (HP.o.ex HX.o) (HQ.o.ex HX.o));have aI:=Aa (fun (w2:World) (h:Ex w1 w2)=>Dv w2 sl tl _ _ (HS.o.ex (HX.o.trans h)) (HT.o.ex (HX.o.trans h)));by_cases h1:fr=fs
 .have k1:(fr==fs)=true:=by simpa using h1
  by_cases h2:pl=ql
  .have aA:=Aa aD.o;rw[show decide (pl=ql)=true from by simpa using h2]at aA;have aG:=Aa (And.intro h1 h2);clear h1 h2 aD;go_wp2_with fail
   refine aA.o.mono ?_;rintro e w2⟨rfl,n2,rfl⟩;have aC:=Aa ((Ex.refl w1).drewN n2);clear a0 a1 b0 b1;obtain⟨a0,a1,b0,b1⟩:=aE.o _ aC.o;have aB:=Aa (aI.o _ aC.o);obtain⟨D,hD⟩:=nA (decide (sl=tl));rw[hD]at aB;have HD:=Aa hD;clear hD;go_wp2_with fail
   refine aB.o.mono ?_;rintro e w3⟨rfl,n3,rfl⟩;have aH:=Aa ((Ex.refl w1).drewN (n2+n3));go_wp2_with fail
   go_ret;refine⟨?_,HX.o.trans aH.o⟩;have:=HD.o;have:=aG.o.1;have:=aG.o.2
   simp_all
  .have aA:=Aa aD.o;rw[show decide (pl=ql)=false from by simpa using h2]at aA;have H2:=Aa h2;clear h2 aD;go_wp2_with fail
   refine aA.o.mono ?_;rintro e w2⟨rfl,n2,rfl⟩;have aC:=Aa ((Ex.refl w1).drewN n2);go_wp2_with fail
   go_ret;refine⟨?_,HX.o.trans aC.o⟩;have:=H2.o
   simp_all
 .have k1:(fr==fs)=false:=by simpa using h1
  have H1:=Aa h1;clear h1;go_wp2_with fail
  go_ret;refine⟨?_,HX.o⟩;have:=H1.o
  simp_all
def UR(rows:List (List Int)):Nat:=rows.length+(rows.map List.length).sum
def PR(aA:Int)(rows:List (List Int))(aB:Int):Bool:=decide (aA<=260/\(UR rows:Int)<=aB)
theorem Jb:∀(l:List Nat) (i:Nat),(l.take i).sum<=l.sum
 | [],i=>by simp
 | x :: l,0=>by simp
 | x :: l,i+1=>by have:=Jb l i;simp;omega
theorem zb3{P:Prop}(h:P:=by
 clear HF;go_enter Tryz.func120,Tryz.ntmps120
 exact zc1):P:=h
theorem TJ(w:World)(aA:Int)(rows:List (List Int))(v:Value)(hv:BO w v rows)(lim:Int)(hl0:0<=lim)(hl1:lim<=100000):
  Calls Tryz.prog 120 #[.agg #[.int .i64 aA,v],.int .i64 lim] w fun r w'=>r= .returned (.bool (PR aA rows lim))/\Ex w w':=by
 obtain⟨d0,d1,e0⟩:=Dl w aA v;obtain⟨za,zc,rfl,z1,z2,z3⟩:=(hv.ex e0).open;have Z3:=Aa z3;unfold maxLen at z2;have HE:=Aa e0;clear hv z3 e0;obtain⟨F,hF⟩:=nA (PR aA rows lim);have HF:=Aa (show F=decide (aA<=260/\(UR rows:Int)<=lim) from hF.symm);rw[hF];clear hF;by_cases h1:260<aA
 .have hF:F=false:=by rw[HF.o];exact decide_eq_false ac
  subst hF;exact zb3
 .have aB:aA<=260:=by omega
  clear h1;by_cases h2:lim<(rows.length:Int)
  .have hF:F=false:=by rw[HF.o];exact decide_eq_false (by unfold UR;omega)
   subst hF;exact zb3
  .have h2':(rows.length:Int)<=lim:=by omega
   have b1:decide (260<aA)=false:=aq;have b2:decide (lim<(rows.length:Int))=false:=aq;clear h2;go_enter Tryz.func120,Tryz.ntmps120
   go_wp2_with fail
   generalize w.alloc (.cells #[.int .i64 aA,.slice za rows.length zc] 137)=w1 at *
   go_loopw [5,6] (fun l' i' wr=>∃(i:Nat) (l:Int),i<=rows.length/\i'= .int .i64 i/\l'= .int .i64 l/\0<=l/\l<=100000/\Hia (l=lim-rows.length-(((rows.map List.length).take i).sum:Nat))/\wr=w1) (fun _ i' _=>rows.length-(intOf i').toNat)
   case atStart=>exact⟨0,lim-rows.length,ac,rfl,by go_num,ac,ac,Aa ag,rfl⟩
   case round=>
    obtain⟨i,l,hi,rfl,rfl,l1,l2,hl,rfl⟩:=hrel;by_cases hlt:i<rows.length
    .obtain⟨r,hr⟩:∃r,rows[i]?=some r:=⟨_,List.getElem?_eq_getElem hlt⟩;have HS:=Aa (show((rows.map List.length).take (i+1)).sum=((rows.map List.length).take i).sum+r.length from by
      rw[List.take_add_one,List.getElem?_map,hr];simp)
     have HT:=Aa (Jb (rows.map List.length) (i+1));obtain⟨bb,o,rfl,hc⟩:=Z3.o ac;obtain⟨u,c1,hu⟩:=hc i r hr;obtain⟨ua,uc,rfl,u1,u2,u3⟩:=hu.open;unfold maxLen at u2;clear hc hu u3 hr;by_cases h3:l<(r.length:Int)
     .have hF:F=false:=by
       rw[HF.o];have s1:=hl.o;have s2:=HS.o;have s3:=HT.o;exact decide_eq_false (by unfold UR;omega)
      subst hF;clear HF HS HT hl;exact zc1
     .have h3':(r.length:Int)<=l:=by omega
      have HL:=Aa (show l-r.length=lim-rows.length-(((rows.map List.length).take (i+1)).sum:Nat) from by
       have s1:=hl.o;have s2:=HS.o;omega)
      clear h3 HS HT hl;go_wp2_with fail
      go_roundw
      case rel=>exact⟨i+1,_,ac,by go_num,(by first|rfl|trivial),ac,ac,HL,(by first|rfl|trivial)⟩
      case measure=>simp[intOf];omega
    .obtain rfl:i=rows.length:=by omega
     have hF:F=true:=by
      rw[HF.o];have s1:=hl.o;rw[List.take_of_length_le ag]at s1;exact decide_eq_true ⟨aB,by unfold UR;omega⟩
     subst hF;clear hl HF;exact zc1
structure L9(w:World)(base g R N cap:Nat)(vals:Nat->Value)(a:Nat->Nat->Int):Prop where
 o:A6 w base 22 g R cap vals
 row:∀i,i<R->w.ownsRow base 3 1 (vals i) N (Ao (il N (a i)))
 ap:∀i,i<R->(vals i).ownBlock≠some g
section
variable {w w':World} {base g R N cap:Nat} {vals:Nat->Value} {a:Nat->Nat->Int}
theorem L9.ex(h:L9 w base g R N cap vals a)(hx:Ex w w'):L9 w' base g R N cap vals a:=
 ⟨h.o.ex hx,fun i hi=>Aj (h.row i hi) hx,h.ap⟩
theorem L9.set(h:L9 w base g R N cap vals a){i:Nat}{u:Value}{f:Nat->Int}(hu:w.ownsRow base 3 1 u N (Ao (il N f)))(hg:u.ownBlock≠some g):L9 (w.setCell ⟨g,i,none⟩ u) base g R N cap (Az vals i u) (Az a i f) where
 o:=h.o.set i u
 row:=fun j hj=>by
  by_cases e:j=i
  .subst e;rw[Ab,Ab];exact Ac hu hg u
  .rw[Ae _ _ e,Ae _ _ e];exact Ac (h.row j hj) (h.ap j hj) u
 ap:=fun j hj=>by
  by_cases e:j=i
  .subst e;rw[Ab];exact hg
  .rw[Ae _ _ e];exact h.ap j hj
theorem Xv(a:Nat->Nat->Int)(s k:Nat):Az (Az a s (a k)) k (a s)=Dx a s k:=by
 funext i;unfold Az Dx;by_cases e1:i=k
 .subst e1;rw[if_pos rfl];by_cases e2:i=s
  .subst e2;rw[if_pos rfl]
  .rw[if_neg e2,if_pos rfl]
 .rw[if_neg e1,if_neg e1]
theorem L9.swp(h:L9 w base g R N cap vals a){s k:Nat}(hs:s<R)(hk:k<R):L9 ((w.setCell ⟨g,s,none⟩ (vals k)).setCell ⟨g,k,none⟩ (vals s)) base g R N cap (Az (Az vals s (vals k)) k (vals s)) (Dx a s k):=by
 have h1:=h.set (i:=s) (h.row k hk) (h.ap k hk);have h2:=h1.set (i:=k) (u:=vals s) (f:=a s) (Ac (h.row s hs) (h.ap s hs) _) (h.ap s hs);rw[Xv]at h2;exact h2
theorem L9.exSet{w0:World}(h:L9 w base g R N cap vals a)(hb:w0.heap.size<=base)(hx:Ex w0 w)(i:Nat)(u:Value):Ex w0 (w.setCell ⟨g,i,none⟩ u):=h.o.exSet hb hx i u
theorem L9.at(h:L9 w base g R N cap vals a)(hN:1<=N){i c:Nat}(hi:i<R)(hc:c<N):∃gi ci,vals i= .slice (some ⟨gi,0,none⟩) N ci/\w.cell? ⟨gi,c,none⟩=some (.int .i64 (a i c))/\N<=ci/\ci<=maxLen:=by
 have hr:=h.row i hi;obtain⟨gi,ci,e,h1,h2⟩:=Fh hr hN;refine⟨gi,ci,e,?_,h1,h2⟩;rw[e,Cf]at hr;have:=A6.cell (show A6 w base 3 gi N ci (iv (a i)) from hr) hc;exact this
theorem L9.isl(h:L9 w base g R N cap vals a){i:Nat}(hi:i<R):Am w (vals i) (il N (a i)):=by
 have:=Sl.own (h.row i hi);unfold Am;rw[AF];exact this
def D6(b0:Nat)(w:World)(v:Value)(rows:List (List Int)):Prop:=∀w':World,(∀B,b0<=B->B<w.heap.size->w'.heap[B]?=w.heap[B]?)->BO w' v rows
theorem D6.msl{b0:Nat}{w:World}{v:Value}{rows:List (List Int)}(h:D6 b0 w v rows):BO w v rows:=h w fun _ _ _=>rfl
theorem D6.low{b0:Nat}{w:World}{v:Value}{rows:List (List Int)}(h:D6 b0 w v rows){A:Addr}(hA:A.block<b0)(u:Value):D6 b0 (w.setCell A u) v rows:=fun w' aA=>h w' fun B h1 h2=>by
 rw[aA B h1 (by simpa using h2)];exact Below.heap_setCell w A u B ac
theorem D6.ex{b0:Nat}{w w2:World}{v:Value}{rows:List (List Int)}(h:D6 b0 w v rows)(hx:Ex w w2):D6 b0 w2 v rows:=fun w' aA=>h w' fun B h1 h2=>by
 rw[aA B h1 (by have:=hx.size;omega)];exact hx.block B h2
theorem D6.mono{b0 b1:Nat}{w:World}{v:Value}{rows:List (List Int)}(h:D6 b0 w v rows)(hb:b1<=b0):D6 b1 w v rows:=fun w' aA=>h w' fun B h1 h2=>aA B ac h2
theorem D6.nil{b0:Nat}{w:World}{a:Option Addr}{c:Nat}(hc:c<=maxLen):D6 b0 w (.slice a 0 c) []:=fun w' _=>⟨[],⟨rfl,a,c,rfl,Nat.zero_le _,hc,fun h=>absurd h ag⟩,fun i r u h1 _=>by simp at h1⟩
theorem GC{w w':World}{B o:Nat}{v:Value}(h:w'.heap[B]?=w.heap[B]?)(hc:w.cell? ⟨B,o,none⟩=some v):w'.cell? ⟨B,o,none⟩=some v:=by
 simp only[World.cell?]at hc ⊢;rw[h];exact hc
theorem L9.mslF(h:L9 w base g R N cap vals a){b0:Nat}(hb:b0<=base){k:Nat}(hk:k<=R):D6 b0 w (.slice (some ⟨g,0,none⟩) k cap) (Av N k a):=fun w' aA=>by
 obtain⟨c1,c2⟩:=h.o.caps;refine⟨vs k vals,?_,fun i r u h1 h2=>?_⟩
 .rw[AE];refine⟨by rw[Bf,Nat.mul_one],some ⟨g,0,none⟩,cap,rfl,ac,c2,fun hn=>⟨g,0,rfl,fun j u hu=>?_⟩⟩;have hj:j<k:=by have:=(List.getElem?_eq_some_iff.1 hu).1;rw[Bf]at this;exact this
  rw[De hj]at hu;injection hu with hu;subst hu;rw[Nat.zero_add];have hc:=h.o.cell (j:=j) ac;exact GC (aA g (by have:=h.o.lt.1;omega) (World.block_lt_of_cell? _ _ hc)) hc
 .have hi:i<k:=by have:=(List.getElem?_eq_some_iff.1 h1).1;rw[AE]at this;exact this
  rw[Cx hi]at h1;rw[De hi]at h2;injection h1 with h1;injection h2 with h2;subst h1 h2;have hr:=h.row i ac;obtain⟨g1,c,cc,g2,g3,g4,g5⟩:=h.isl (i:=i) ac;refine⟨g1,c,cc,g2,g3,g4,fun hn=>?_⟩;obtain⟨b,o,rfl,g7⟩:=g5 hn;refine⟨b,o,rfl,fun j u hu=>?_⟩;have hc:=g7 j u hu;exact GC (aA b (by have:=(hr.lt b (by rw[g2];rfl)).1;omega) (World.block_lt_of_cell? _ _ hc)) hc
theorem L9.of{cv:Value}{vl:List Value}(h:Bv w base cv (Av N R a) vl)(hR:1<=R):∃g cap,cv= .slice (some ⟨g,0,none⟩) R cap/\L9 w base g R N cap (fun i=>vl.getD i undef) a:=by
 have hl:vl.length=R:=by rw[h.len,AE]
 have aA:vl=vs R (fun i=>vl.getD i undef):=by
  refine List.ext_getElem? fun j=>?_;by_cases hj:j<R
  .rw[De hj,List.getD_eq_getElem?_getD,List.getElem?_eq_getElem ac];rfl
  .rw[List.getElem?_eq_none ac,List.getElem?_eq_none (by rw[Bf];omega)]
 have hc:=h.cvo;rw[AE,aA]at hc;obtain⟨g,cap,e,ho⟩:=JE hc hR;have hv:∀i,i<R->vl[i]?=some (vl.getD i undef):=fun i hi=>by
  exact zcM
 refine⟨g,cap,e,ho,fun i hi=>?_,fun i hi e2=>?_⟩
 .have:=h.row i _ _ (Cx hi) (hv i hi);rw[AF]at this;exact this
 .have:=h.apart _ (List.mem_of_getElem? (hv i hi));rcases this with h1|h1
  .rw[h1]at e2;cases e2
  .rw[e,e2]at h1;exact h1 rfl
structure Lp(w1 wr:World)(base g R N cap:Nat)(vals:Nat->Value)(a:Nat->Nat->Int)(piv:List Nat)(pv:Value):Prop where
 em:L9 wr base g R N cap vals a
 po:wr.ownsRow base 3 1 pv piv.length (Ao (pI piv))
 pg:pv.ownBlock≠some g
 pa:∀i,i<R->AQ (vals i) pv
 hb:w1.heap.size<=base
 ex:Ex w1 wr
variable {w1 wr:World} {piv:List Nat} {pv pv' u:Value} {f:Nat->Int}
theorem Lp.later(h:Lp w1 wr base g R N cap vals a piv pv)(hx:Ex wr w'):Lp w1 w' base g R N cap vals a piv pv:=
 ⟨h.em.ex hx,Aj h.po hx,h.pg,h.pa,h.hb,h.ex.trans hx⟩
theorem Lp.fresh(h:Lp w1 wr base g R N cap vals a piv pv){b' n:Nat}{e:TypeId}{xs:List Value}(hu:w'.ownsRow wr.heap.size e 1 u n xs):u.ownBlock≠some g/\AQ u pv:=by
 have hg:=h.em.o.lt.2;refine⟨fun e2=>?_,?_⟩
 .have:=(hu.lt g e2).1;omega
 .cases e2:u.ownBlock with
  | none=>exact .inl e2
  | some B=>
   right;rw[e2];intro e3;have h1:=(h.po.lt B e3.symm).2;have h2:=(hu.lt B e2).1;omega
theorem Lp.set(h:Lp w1 wr base g R N cap vals a piv pv){i:Nat}(hu:wr.ownsRow base 3 1 u N (Ao (il N f)))(hg:u.ownBlock≠some g)(ha:AQ u pv):Lp w1 (wr.setCell ⟨g,i,none⟩ u) base g R N cap (Az vals i u) (Az a i f) piv pv where
 em:=h.em.set hu hg
 po:=Ac h.po h.pg u
 pg:=h.pg
 pa:=fun j hj=>by
  by_cases e:j=i
  .subst e;rw[Ab];exact ha
  .rw[Ae _ _ e];exact h.pa j hj
 hb:=h.hb
 ex:=h.em.exSet h.hb h.ex i u
theorem Lp.swp(h:Lp w1 wr base g R N cap vals a piv pv){s k:Nat}(hs:s<R)(hk:k<R):Lp w1 ((wr.setCell ⟨g,s,none⟩ (vals k)).setCell ⟨g,k,none⟩ (vals s)) base g R N cap (Az (Az vals s (vals k)) k (vals s)) (Dx a s k) piv pv where
 em:=h.em.swp hs hk
 po:=Ac (Ac h.po h.pg _) h.pg _
 pg:=h.pg
 pa:=fun j hj=>by
  by_cases e:j=k
  .subst e;rw[Ab];exact h.pa s hs
  .rw[Ae _ _ e];by_cases e:j=s
   .subst e;rw[Ab];exact h.pa k hk
   .rw[Ae _ _ e];exact h.pa j hj
 hb:=h.hb
 ex:=(h.em.set (i:=s) (h.em.row k hk) (h.em.ap k hk)).exSet h.hb (h.em.exSet h.hb h.ex s _) k _
theorem Lp.app(h:Lp w1 wr base g R N cap vals a piv pv){c:Nat}(ha:Bn wr w' base 3 1 pv pv' piv.length (Ao (pI piv)) [.int .i64 (c:Int)]):Lp w1 w' base g R N cap vals a (piv ++ [c]) pv':=by
 have ho:AQ (.slice (some ⟨g,0,none⟩) R cap) pv:= .inr fun e=>h.pg e.symm;have h1:=ha.row h.em.o ho;have h2:=fun i hi=>ha.row (h.em.row i hi) (h.pa i hi);refine⟨⟨h1.1,fun i hi=>(h2 i hi).1,h.em.ap⟩,?_,?_,fun i hi=>(h2 i hi).2,h.hb,ha.ex h.ex h.hb⟩
 .have:=ha.own;rw[List.length_append];unfold pI at *;rw[List.map_append];unfold Ao at *;rw[List.map_append];exact this
 .rcases h1.2 with h3|h3
  .cases h3
  .exact fun e=>h3 e.symm
end
end Go.Proofs.YtehieobniamagaaGreat
