/- Walk of equivalence.CheckRefutation. -/
import Derived.Laws.EntriesVeiled
import Derived.Test.YtehieobniamagaaGreatZm18
namespace Go.Proofs.YtehieobniamagaaGreat
open Go.RowKit
set_option linter.all false
set_option maxRecDepth 100000
set_option maxHeartbeats 8000000
theorem boxRf(w:World)(ev:Value):(w.alloc (.cells #[ev] 94)).cell? ⟨w.heap.size,0,none⟩=some ev:=ag
def flS(c d:AR)(es:List Rf)(tl sl:List Int):Nat × Int:=ZS c.p.toNat c.m.toNat c.ml c.rows d.rows c.n.toNat es (c.n.toNat-tl.length) 0 tl sl
def ckE(E:Int)(R:Nat × Int)(es:List Rf):Int:=if E≠0 then E else if R.2=0/\R.1<es.length then 13 else R.2
theorem GY(w:World)(c d:AR)(m1 m2 v1 v2:Value)(hc:c.at w m1 v1)(hd:d.at w m2 v2)(tl sl:List Int)(tv sv:Value)(ht:Aj w tv tl)(hs:Aj w sv sl)(es:List Rf)(ev:Value)(hr:Qy w ev es):
  Calls Tryz.prog 133 #[c.arg m1 v1,d.arg m2 v2,.agg #[tv,sv],.agg #[ev]] w fun r w'=>(∃e1 e2:Int,BL c.p c.m c.ml c.n c.rows e1/\(e1=0->BL d.p d.m d.ml d.n d.rows e2)/\r= .returned (.int .i64 (ckE (F4 e1 e2 (Cz c.p c.m c.ml d.p d.m d.ml) c.n d.n tl sl (c.p.toNat^c.m.toNat)) (flS c d es tl sl) es)))/\Ex w w':=by
 obtain⟨c0,c1,c2,c3,c4⟩:=CH w c m1 v1;obtain⟨d0,d1,d2,d3,d4⟩:=CH (w.alloc (c.obj m1 v1)) d m2 v2;obtain⟨b0,b1,e3,aY⟩:=AS ((w.alloc (c.obj m1 v1)).alloc (d.obj m2 v2)) tv sv;have aI:=boxRf (((w.alloc (c.obj m1 v1)).alloc (d.obj m2 v2)).alloc (.cells #[tv,sv] 71)) ev;have aZ:(w.alloc (c.obj m1 v1)).heap.size=w.heap.size+1:=ag;have aO:((w.alloc (c.obj m1 v1)).alloc (d.obj m2 v2)).heap.size=w.heap.size+1+1:=ag;have e1:=AH w (c.obj m1 v1);have e2:=AH (w.alloc (c.obj m1 v1)) (d.obj m2 v2);have e4:=AH (((w.alloc (c.obj m1 v1)).alloc (d.obj m2 v2)).alloc (.cells #[tv,sv] 71)) (.cells #[ev] 94);rw[aY,aO]at aI;rw[aZ]at d0 d1 d2 d3 d4;rw[aO]at b0 b1;have aC:=e1.trans (e2.trans (e3.trans e4));replace c0:=(e2.trans (e3.trans e4)).cell c0;replace c1:=(e2.trans (e3.trans e4)).cell c1;replace c2:=(e2.trans (e3.trans e4)).cell c2;replace c3:=(e2.trans (e3.trans e4)).cell c3;replace c4:=(e2.trans (e3.trans e4)).cell c4;replace d0:=(e3.trans e4).cell d0;replace d1:=(e3.trans e4).cell d1;replace d2:=(e3.trans e4).cell d2;replace d3:=(e3.trans e4).cell d3;replace d4:=(e3.trans e4).cell d4;replace b0:=e4.cell b0;replace b1:=e4.cell b1;obtain⟨B,hB⟩:=nA w.heap.size;rw[hB]at c0 c1 c2 c3 c4 d0 d1 d2 d3 d4 b0 b1 aI;have aL:=Aa (IG _ c d m1 m2 v1 v2 (hc.ex aC) (hd.ex aC) tl sl tv sv (ht.ex aC) (hs.ex aC));obtain⟨ta,tc,rfl,-,t2,-⟩:=ht.open;obtain⟨sa,sc,rfl,-,s2,-⟩:=hs.open;obtain⟨x1,y1,rfl,-,z1,-⟩:=hc.g.open;obtain⟨x2,y2,rfl,-,z2,-⟩:=hd.g.open;obtain⟨x3,y3,rfl,-,z3,-⟩:=hc.m.open;obtain⟨x4,y4,rfl,-,z4,-⟩:=hd.m.open;unfold maxLen at t2 s2 z1 z2 z3 z4;obtain⟨HX,HC,HD,HT,HS,HR,aS⟩:=OK aC hc hd ht hs hr aI;obtain⟨ra,rc,rfl,bJ,-,-⟩:=O0 hr;unfold maxLen at bJ;have HWB:=Aa hB;clear hc hd ht hs hr e1 e2 e3 e4 aZ aO aY aC aI;unfold AR.arg at aL ⊢;go_enter Tryz.func133,Tryz.ntmps133
 unfold AR.obj at c0 c1 c2 c3 c4 d0 d1 d2 d3 d4 b0 b1 HX aS aL;go_upto_region 1 with fail
 try simp only[hB]
 clear hB;generalize (((w.alloc (.cells #[.int .i64 c.p,.int .i64 c.m,.slice x3 c.ml.length y3,.int .i64 c.n,.slice x1 c.rows.length y1] 39)).alloc (.cells #[.int .i64 d.p,.int .i64 d.m,.slice x4 d.ml.length y4,.int .i64 d.n,.slice x2 d.rows.length y2] 39)).alloc (.cells #[.slice ta tl.length tc,.slice sa sl.length sc] 71)).alloc (.cells #[.slice ra es.length rc] 94)=w1 at *;have B0:=Aa b0;have B1:=Aa b1;go_wp2_with fail
 refine aL.o.mono ?_;rintro e w3⟨ho,bA⟩;have aK:=Aa bA;obtain⟨e1,e2,bC,aF,ho⟩:=ho;have aM:=Aa bC;have bE:=Aa aF;clear c0 c1 c2 c3 c4 d0 d1 d2 d3 d4 bA bC aF aL b0 b1;obtain⟨E,hE⟩:=nA (F4 e1 e2 (Cz c.p c.m c.ml d.p d.m d.ml) c.n d.n tl sl (c.p.toNat^c.m.toNat));rw[hE]at ho;have HE:=Aa hE;rcases ho with⟨h0,ptr,rfl⟩|⟨h0,w2,A,b,x0,pn,mn,nn,hp,hm,hnn,rfl,hx2,hg,hx01,hx02,hA,hx23,hpr,h11,hf11⟩
 .have hb0:(E !=0)=true:=by simpa using h0
  have H0:=Aa h0;clear h0 hE;go_wp2_with fail
  go_ret;refine⟨⟨e1,e2,aM.o,bE.o,?_⟩,(HX.o.trans aK.o).alloc _⟩;rw[HE.o];unfold ckE;rw[if_pos H0.o];rfl
 .subst h0;obtain⟨k1,k2,k3,k4,k5,k6,k7,k8,k9⟩:=QH hE;subst k1;have aF:=bE.o rfl;subst k2;obtain⟨aX,aV⟩:=Dp aM.o;obtain⟨aW,aU⟩:=Dp aF;obtain⟨-,bI,bH⟩:=EF aM.o;obtain⟨SB,aJ⟩:∃B,w3.heap.size=B:=⟨_,rfl⟩;have aA:=HX.o.trans hx2;have b0:=aK.o.cell B0.o;have b1:=aK.o.cell B1.o;have r0:=aK.o.cell aS.o;have HK:=Aa (show c.n=d.n/\tl.length=sl.length/\(tl.length:Int)<=c.n/\BB tl c.n=true from⟨k4,k5,k6,k7⟩);have aB:=Aa (show c.p=pn/\c.m=mn/\c.n=nn from⟨hp,hm,hnn⟩);clear aS hp hm hnn k3 k4 k5 k6 k7 k8 k9 hE;go_upto_region 7 with fail
  have f1:=AH w3 (.cells #[.pointer (some ⟨A,0,none⟩)] 186);have f2:=AH (w3.alloc (.cells #[.pointer (some ⟨A,0,none⟩)] 186)) (.cells #[.int .i64 0] 3);have f3:=AH ((w3.alloc (.cells #[.pointer (some ⟨A,0,none⟩)] 186)).alloc (.cells #[.int .i64 0] 3)) (.cells #[I6 (SB+1) (B+1+1+1) SB (SB+1+1)] 216);have aT:(w3.alloc (.cells #[.pointer (some ⟨A,0,none⟩)] 186)).cell? ⟨SB,0,none⟩=some (.pointer (some ⟨A,0,none⟩)):=AY _ _ _ aJ;have aH:(w3.alloc (.cells #[.pointer (some ⟨A,0,none⟩)] 186)).heap.size=SB+1:=by simp[aJ]
  have aR:((w3.alloc (.cells #[.pointer (some ⟨A,0,none⟩)] 186)).alloc (.cells #[.int .i64 0] 3)).cell? ⟨SB+1,0,none⟩=some (.int .i64 0):=AY _ _ _ aH;have bD:((w3.alloc (.cells #[.pointer (some ⟨A,0,none⟩)] 186)).alloc (.cells #[.int .i64 0] 3)).frozen? ⟨SB+1,0,none⟩=false:=FS _ _ _ aH;have bB:((w3.alloc (.cells #[.pointer (some ⟨A,0,none⟩)] 186)).alloc (.cells #[.int .i64 0] 3)).heap.size=SB+1+1:=by simp[aJ]
  have aQ:(((w3.alloc (.cells #[.pointer (some ⟨A,0,none⟩)] 186)).alloc (.cells #[.int .i64 0] 3)).alloc (.cells #[I6 (SB+1) (B+1+1+1) SB (SB+1+1)] 216)).cell? ⟨SB+1+1,0,none⟩=some (I6 (SB+1) (B+1+1+1) SB (SB+1+1)):=AY _ _ _ bB;have aD:=hx23.trans f1;have aG:=Aa (show CkE pn mn c.ml c.rows d.rows nn A b x0 (B+1+1+1) SB (.slice x1 c.rows.length y1) (.slice x2 d.rows.length y2) (.slice ra es.length rc) es (w3.alloc (.cells #[.pointer (some ⟨A,0,none⟩)] 186)) from
   { pr:=hpr.ex f1,gf:=hg.ex aD,m1:=(HC.o.g.ex aA).ex aD,m2:=(HD.o.g.ex aA).ex aD,x1:=hx01,x2:=hx02,n64:=by have:=aB.o.2.2;omega,r1:=fun r hr=>by have:=aV r hr;have:=aB.o.2.2;omega,r2:=fun r hr=>by have:=aU r hr;have:=aB.o.2.2;have:=HK.o.1;omega,k1:=aX,k2:=aW,rb:=f1.cell r0,sb:=aT,rs:=(HR.o.ex aA).ex aD })
  have bF:=Aa (show Gd (w3.alloc (.cells #[.pointer (some ⟨A,0,none⟩)] 186)) (SB+1) (SB+1+1) (I6 (SB+1) (B+1+1+1) SB (SB+1+1)) es.length 0 (((w3.alloc (.cells #[.pointer (some ⟨A,0,none⟩)] 186)).alloc (.cells #[.int .i64 0] 3)).alloc (.cells #[I6 (SB+1) (B+1+1+1) SB (SB+1+1)] 216)) from
   { ex:=f2.trans f3,c:=f3.cell aR,f:=f3.frz aR bD,fb:=aQ,ne:=ac,lb:=by rw[aH];omega,le:=Nat.zero_le _ })
  have HP:=Aa (fun (v:Value) (l:List Int) (h:Aj w v l)=>show CR (Tx (SB+1)) (((w3.alloc (.cells #[.pointer (some ⟨A,0,none⟩)] 186)).alloc (.cells #[.int .i64 0] 3)).alloc (.cells #[I6 (SB+1) (B+1+1+1) SB (SB+1+1)] 216)) v l from by
   refine⟨h.ex (((aA.trans hx23).trans f1).trans (f2.trans f3)),fun hl X hX hd=>?_⟩;have h2:=h.ex (aA.trans hx23);obtain⟨a,cap,rfl,-,-,h5⟩:=h2.open;obtain⟨b',o,rfl,h6⟩:=h5 (List.length_pos_iff.2 hl);injection hX with hX;have hX:b'=X:=hX;have:=World.block_lt_of_cell? _ _ (h6 0 _ (AQ (List.length_pos_iff.2 hl)));have hd:X=SB+1:=hd;simp only at this;omega)
  have b0:=(f1.trans (f2.trans f3)).cell b0;have b1:=(f1.trans (f2.trans f3)).cell b1;have r0:=(f1.trans (f2.trans f3)).cell r0;have aN:=Aa (Rx aG.o (nn-tl.length) 0 _ tl sl (.slice ta tl.length tc) (.slice sa sl.length sc) (by have:=HK.o.2.2.1;have:=aB.o.2.2;omega) HK.o.2.1.symm (by have:=HK.o.2.2.2;rw[aB.o.2.2]at this;exact this) (fun h=>absurd rfl h) bF.o (HP.o _ _ HT.o) (HP.o _ _ HS.o));have hR:ZS pn mn c.ml c.rows d.rows nn es (nn-tl.length) 0 tl sl=flS c d es tl sl:=by
   unfold flS;rw[aB.o.1,aB.o.2.1,aB.o.2.2];rfl
  rw[hR]at aN;have fb1:=Aa aQ;unfold I6 at b0 b1 r0 aQ aN bF f3;have bK:=Aa (aA.trans aD);have bG:=aG.o.rb;clear aD aA aH bB aT aR bD f1 f2 HP hx23 hpr hg hx01 hx02 hA h11 hf11 hx2 aX aW aV aU bI bH hR;generalize ((w3.alloc (.cells #[.pointer (some ⟨A,0,none⟩)] 186)).alloc (.cells #[.int .i64 0] 3)).alloc (.cells #[.func (.func 180) #[] #[.pointer (some ⟨SB+1,0,none⟩),.pointer (some ⟨B+1+1+1,0,none⟩),.pointer (some ⟨SB,0,none⟩),.pointer (some ⟨SB+1+1,0,none⟩)]] 216)=w6 at *;obtain⟨R,hR⟩:=nA (flS c d es tl sl);rw[hR]at aN;have bM:=Aa hR
  try simp only[aJ]
  clear hR;have aP:R.1<=es.length∨True:=Or.inr trivial;clear aP;go_wp2_with (go_at_call 180;refine aN.o.mono ?_;rintro e7 w7⟨rfl,aE,-⟩;have bL:=Aa aE;have a7:=aE.c;have r7:=aE.ex.cell bG;have hl7:=aE.le;clear aE)
  all_goals
   go_ret;refine⟨⟨0,0,aM.o,fun _=>aF,?_⟩,bK.o.trans bL.o.ex⟩;rw[HE.o,bM.o];unfold ckE
   simp_all
structure UK(w1 wr:World)(E:Nat)(n:Int)(M:List (List Int))(rv:Value)(vals:List Value):Prop where
 c0:wr.cell? ⟨E,0,none⟩=some (.int .i64 n)
 c1:wr.cell? ⟨E,1,none⟩=some rv
 f1:wr.frozen? ⟨E,1,none⟩=false
 rows:BC wr (E+1) rv M vals
 lb:w1.heap.size<=E
 ex:Ex w1 wr
section
variable {w1 wr w':World} {E:Nat} {n:Int} {M:List (List Int)} {rv v' l:Value} {vals:List Value} {L:List Int}
theorem UK.later(h:UK w1 wr E n M rv vals)(hx:Ex wr w'):UK w1 w' E n M rv vals:=
 ⟨hx.cell h.c0,hx.cell h.c1,hx.frz h.c1 h.f1,h.rows.ex hx,h.lb,h.ex.trans hx⟩
theorem UK.at1(h:UK w1 wr E n M rv vals)(ha:Bt wr w' (E+1) 22 1 rv v' M.length vals [l]):w'.cell? ⟨E,1,none⟩=some rv/\w'.frozen? ⟨E,1,none⟩=false:=
 ⟨ha.cell h.c1 (fun e=>Ey h.rows.cvo e.symm),ha.frz h.c1 h.f1 (fun e=>Ey h.rows.cvo e.symm)⟩
theorem UK.app1(h:UK w1 wr E n M rv vals)(hl:wr.ownsRow (E+1) 3 1 l L.length (An L))(h1:AP l rv)(ha:Bt wr w' (E+1) 22 1 rv v' M.length vals [l]):
  UK w1 (w'.setCell ⟨E,1,none⟩ v') E n (M ++ [L]) v' (vals ++ [l]):=by
 have aA:some E≠rv.ownBlock:=fun e=>Ey h.rows.cvo e.symm;have hm:=h.rows.app hl h1 ha;refine⟨?_,World.cell?_setCell_same _ _ _ (ha.cell h.c1 aA),?_,hm.setNe (a:=⟨E,1,none⟩) (by show E<E+1;omega) v',h.lb,(ha.ex h.ex (by have:=h.lb;omega)).setCell (p:=⟨E,1,none⟩) h.lb _⟩
 .exact za3
 .rw[Ax];exact ha.frz h.c1 h.f1 aA
end
theorem UK.new(w1:World)(n:Int):UK w1 (w1.alloc (.cells #[.int .i64 n,.slice none 0 0] 137)) w1.heap.size n [] (.slice none 0 0) [] where
 c0:=ag
 c1:=ag
 f1:=ag
 rows:=BC.nil _ _
 lb:=Nat.le_refl _
 ex:=(Ex.refl _).alloc _
def Fd(p m:Nat)(ml pl sl:List Int)(fr N:Nat)(rows:List (List Int))(k:Nat):List (List Int):=(rows.take k).map fun x=>il N (KV p m ml pl sl fr x N)
theorem Ik{p m:Nat}{ml pl sl:List Int}{fr N:Nat}{rows:List (List Int)}{k:Nat}(h:k<=rows.length):(Fd p m ml pl sl fr N rows k).length=k:=by
 unfold Fd;simp;omega
theorem Wk{p m:Nat}{ml pl sl:List Int}{fr N:Nat}{rows:List (List Int)}{k:Nat}(h:k<rows.length):Fd p m ml pl sl fr N rows (k+1)=Fd p m ml pl sl fr N rows k ++ [il N (KV p m ml pl sl fr (rows[k]'h) N)]:=by
 unfold Fd;rw[List.take_add_one,List.getElem?_eq_getElem h,List.map_append];rfl
def imA(p m:Int)(ml pl sl:List Int)(fr n:Int)(rows:List (List Int)):List (List Int):=Fd p.toNat m.toNat ml pl sl fr.toNat n.toNat rows rows.length
def ZK(p m:Int)(ml:List Int)(n:Int)(rows:List (List Int))(pl sl:List Int)(fr:Int)(b0:Nat)(r:Ending)(w':World):Prop:=
 ∃e1:Int,BL p m ml n rows e1/\
  ((e1≠0/\r= .returned (.tuple #[.agg #[.int .i64 0,.int .i64 0,.slice none 0 0,.int .i64 0,.slice none 0 0],.int .i64 e1]))∨
  (e1=0/\CW p m ml n pl sl fr≠0/\r= .returned (.tuple #[.agg #[.int .i64 0,.int .i64 0,.slice none 0 0,.int .i64 0,.slice none 0 0],.int .i64 (CW p m ml n pl sl fr)]))∨
  (e1=0/\CW p m ml n pl sl fr=0/\Z6 p m ml n (imA p m ml pl sl fr n rows) b0 r w'))
theorem bc{P:Prop}(h:P:=by simp[results,Tryz.results39,go_sem,q0,q1,q2,q3,q4]):P:=h
theorem cd{P:Prop}(h:P:=by show B+1+1<base;omega):P:=h
theorem Nb(w:World)(p m:Int)(ml:List Int)(mv:Value)(aX:Aj w mv ml)(n:Int)(rows:List (List Int))(v:Value)(hv:BY w v rows)(pl sl:List Int)(pv sv:Value)(hp:Aj w pv pl)(hs:Aj w sv sl)(fr:Int):
  Calls Tryz.prog 39 #[.agg #[.int .i64 p,.int .i64 m,mv,.int .i64 n,v],.agg #[pv,sv,.int .i64 fr]] w fun r w'=>ZK p m ml n rows pl sl fr w.heap.size r w'/\Ex w w':=by
 obtain⟨c0,c1,c2,c3,c4,ea⟩:=EH w p m mv n v;obtain⟨b0,b1,b2,eb⟩:=Bc (w.alloc (.cells #[.int .i64 p,.int .i64 m,mv,.int .i64 n,v] 39)) pv sv fr;have bT:(w.alloc (.cells #[.int .i64 p,.int .i64 m,mv,.int .i64 n,v] 39)).heap.size=w.heap.size+1:=ag;have aL:((w.alloc (.cells #[.int .i64 p,.int .i64 m,mv,.int .i64 n,v] 39)).alloc (.cells #[pv,sv,.int .i64 fr] 26)).heap.size=w.heap.size+1+1:=ag;rw[bT]at b0 b1 b2;replace c0:=eb.cell c0;replace c1:=eb.cell c1;replace c2:=eb.cell c2;replace c3:=eb.cell c3;replace c4:=eb.cell c4;obtain⟨HX,HM,HV,HP,HS⟩:=Of (ea.trans eb) aX hv hp hs;obtain⟨va,vc,rfl,-,q1,v3⟩:=hv.open;obtain⟨ma,mc,rfl,-,q2,-⟩:=aX.open;obtain⟨pa,pc,rfl,-,q3,-⟩:=hp.open;obtain⟨sa,sc,rfl,-,q4,-⟩:=hs.open;unfold maxLen at q1 q2 q3 q4;have V3:=Aa v3;obtain⟨B,hB⟩:=nA w.heap.size;rw[hB]at c0 c1 c2 c3 c4 b0 b1 b2 aL;clear aX hv hp hs ea eb bT v3;go_enter Tryz.func39,Tryz.ntmps39
 go_upto_region 1 with fail
 try simp only[hB]
 have HB:=Aa hB;clear hB;generalize (w.alloc (.cells #[.int .i64 p,.int .i64 m,.slice ma ml.length mc,.int .i64 n,.slice va rows.length vc] 39)).alloc (.cells #[.slice pa pl.length pc,.slice sa sl.length sc,.int .i64 fr] 26)=wB at *;have bq:=ZI.new wB;rw[aL]at bq;have ec:Ex wB _:=AH wB (.cells #[.int .i64 0,.int .i64 0,.slice none 0 0,.int .i64 0,.slice none 0 0] 39);have bS:(wB.alloc (.cells #[.int .i64 0,.int .i64 0,.slice none 0 0,.int .i64 0,.slice none 0 0] 39)).heap.size=B+1+1+1:=by simp[aL]
 try simp only[aL]
 generalize wB.alloc (.cells #[.int .i64 0,.int .i64 0,.slice none 0 0,.int .i64 0,.slice none 0 0] 39)=wC at *;obtain⟨aA,BQ,aB,CSZ⟩:=Eq (fun w' (h:Ex wC w')=>(⟨h.cell (ec.cell c0),h.cell (ec.cell c1),h.cell (ec.cell c2),h.cell (ec.cell c3),h.cell (ec.cell c4),h.cell (ec.cell b0),h.cell (ec.cell b1),h.cell (ec.cell b2)⟩:_/\_/\_/\_/\_/\_/\_/\_)) bq (HX.o.trans ec) bS;have cC:=Aa (DW wC p m ml _ (HM.o.ex aB.o) n rows _ (HV.o.ex aB.o));clear c0 c1 c2 c3 c4 b0 b1 b2 bq ec bS aL HX;obtain⟨c0,c1,c2,c3,c4,b0,b1,b2⟩:=aA.o wC (Ex.refl _);go_wp2_with fail
 refine cC.o.mono ?_;rintro e w2⟨⟨e1,rfl,bN⟩,aU⟩;clear c0 c1 c2 c3 c4 b0 b1 b2 cC;obtain⟨c0,c1,c2,c3,c4,b0,b1,b2⟩:=aA.o w2 aU;have aE:=Aa aU;have aJ:=Aa bN;clear aU bN;by_cases h1:e1=0
 .subst h1;have HF:=Aa (EF aJ.o);have HR:=Aa (Dp aJ.o);have bA:=Aa (MR w2 p m ml _ (HM.o.ex (aB.o.trans aE.o)) n pl sl _ _ (HP.o.ex (aB.o.trans aE.o)) (HS.o.ex (aB.o.trans aE.o)) fr);obtain⟨E,hE⟩:=nA (CW p m ml n pl sl fr);rw[hE]at bA;have HE:=Aa hE;clear hE;go_wp2_with fail
  refine bA.o.mono ?_;rintro e w3⟨ho,aT⟩;clear c0 c1 c2 c3 c4 b0 b1 b2 bA;obtain⟨c0,c1,c2,c3,c4,b0,b1,b2⟩:=aA.o w3 (aE.o.trans aT);have aD:=Aa (aE.o.trans aT);clear aT aE;rcases ho with⟨rfl,b,pn,mn,x0,rfl,rfl,rfl,hg,x1,x2'⟩|⟨h0,ptr,rfl⟩
  .obtain⟨_,n1,n2,n3,n4,n5,n6,n7,_,_⟩:=NE HE.o;obtain⟨fn,rfl⟩:∃fn:Nat,fr=fn:=⟨fr.toNat,ac⟩;obtain⟨N,rfl⟩:∃N:Nat,n=N:=⟨n.toNat,ac⟩;have HR2:=HR.o.1;have bL:∀r∈rows,r.length=N:=fun r hr=>by have:=HR.o.2 r hr;omega
   obtain⟨cO,bZ,cT,aR⟩:=Eq bL (show 1<=N/\N<=64/\ml.length<=1000 from⟨ac,ac,by have h:=hg.sh.len;have h8:=hg.sh.m8;rw[h];split <;> omega⟩) (fun (w1:World) (h1:Ex w3 w1) (x:List Int) (xv:Value) (hx:Aj w1 xv x) (cF:x.length=N)=>Un w1 (hg.ex h1) N ac pl sl x _ _ xv (HP.o.ex ((aB.o.trans aD.o).trans h1)) (HS.o.ex ((aB.o.trans aD.o).trans h1)) hx fn ac ac ac cF n5) (show imA pn mn ml pl sl fn N rows=Fd pn mn ml pl sl fn N rows rows.length from by unfold imA;simp only[Int.toNat_natCast]);clear n1 n2 n3 n4 n5 n6 n7 bL x1 x2' hg HR;go_upto_region 8 with fail
   obtain⟨F,hF⟩:=nA w3.heap.size;have aV:=UK.new w3 (N:Int)
   try simp only[hF]
   rw[hF]at aV;have bY:=Aa aV;have HFW:=Aa hF;have ec:=AH w3 (.cells #[.int .i64 N,.slice none 0 0] 137);generalize w3.alloc (.cells #[.int .i64 N,.slice none 0 0] 137)=w4 at *;clear c0 c1 c2 c3 c4 b0 b1 b2 hF aV;obtain⟨c0,c1,c2,c3,c4,b0,b1,b2⟩:=aA.o w4 (aD.o.trans ec);have EC:=Aa ec;clear ec;go_wp2_with fail
   go_loopw [37] (fun i' wr=>∃(k:Nat) (rv:Value) (vals:List Value),k<=rows.length/\i'= .int .i64 k/\Hia (UK w3 wr F N (Fd pn mn ml pl sl fn N rows k) rv vals)) (fun i' _=>rows.length-(intOf i').toNat)
   case atStart=>exact⟨0,_,_,ac,rfl,bY⟩
   case round=>
    clear bY c0 c1 c2 c3 c4 b0 b1 b2;obtain⟨k,rv,vals,hk,rfl,BA⟩:=hrel;by_cases hkR:k<rows.length
    .obtain⟨rb,ro,rfl,bM⟩:=V3.o ac;obtain⟨uv,bK,aN⟩:=bM k _ (List.getElem?_eq_getElem hkR);have aP:=Aa BA.o.ex;have cu:=((aB.o.trans aD.o).trans aP.o).cell bK;have i1:(0:Int)<=(k:Int):=by omega
     have i2:(k:Int)<(rows.length:Int):=ac;obtain⟨x,hx⟩:=nA (rows[k]);have bU:=Aa (Wk (p:=pn) (m:=mn) (ml:=ml) (pl:=pl) (sl:=sl) (fr:=fn) (N:=N) hkR);have cJ:=Aa (show x.length=N from hx ▸ cO.o _ (List.getElem_mem hkR));rw[hx]at bU aN;have cL:=Aa (aN.ex ((aB.o.trans aD.o).trans aP.o));have aH:=Aa (Ik (p:=pn) (m:=mn) (ml:=ml) (pl:=pl) (sl:=sl) (fr:=fn) (N:=N) hk);have aG:=Aa BA.o;obtain⟨b0,b1,b2⟩:=(aA.o wr (aD.o.trans aP.o)).2.2.2.2.2;have t1:=BA.o.c1;have T1F:=Aa BA.o.f1;obtain⟨qa,qc,aW⟩:=Ae BA.o.rows.cvo;subst aW;rw[Ik ac]at t1;have bW:=Aa t1;obtain⟨ua,uc,rfl,-,u2,-⟩:=aN.open;unfold maxLen at u2;have bX:=Aa (fun (w1:World) (h1:Ex wr w1)=>cT.o w1 (aP.o.trans h1) x _ (cL.o.ex h1) cJ.o);clear bM bK aN hx BA;go_upto_region 11 with fail
     have aF:=Aa (show Ex wr wr.drew from(Ex.refl wr).drew)
     go_region_law
      ((first
              | (refine Cm bp _ _ _ bp (F+1) 22 (.slice none 0 0) 1 24 Tryz.underlying37 BR rfl ae (.slice qa k qc) k vals bp (by have h:=Ai aG.o.rows.cvo ((aF.o.trans aI).trans (AH w5 (.cells #[.slice (some ⟨g5,0,none⟩) N N] 22)));rw[aH.o]at h;exact h) _ 1 [.slice (some ⟨g5,0,none⟩) N N] bp (Sl.own (Fl w5 (.slice (some ⟨g5,0,none⟩) N N) 22)) aj ai ac (by have:=cN.o;simp;omega) ?_;intro v8 w8 aC bP bQ;have bC:=Aa (WN (by have h:=Ai aG.o.rows.cvo (aF.o.trans aI);rw[aH.o]at h;exact h) aC bP bQ);obtain⟨bE,cD⟩:=(aG.o.later (aF.o.trans aI)).at1 (by rw[aH.o];exact bC.o);rw[aH.o]at bE;obtain⟨va8,vc8,cI⟩:=Ae aC;subst cI)
              | (go_simp;refine(bX.o _ aF.o).mono ?_;rintro e w5⟨g5,rfl,aO,aI⟩;have t1:=aI.cell (show wr.drew.cell? ⟨F,1,none⟩=some (.slice qa k qc) from bW.o);have cE:=(AH w5 (.cells #[.slice (some ⟨g5,0,none⟩) N N] 22)).cell t1;have cN:=Aa (show F+1<=w5.heap.size from by have h1:=aO.lt;have h2:=World.block_lt_of_cell? _ _ t1;exact h2);go_simp)))
     all_goals
      have aK:=aF.o.trans aI;have aM:=aG.o.later aK;have bO:w5.ownsRow (F+1) 3 1 (.slice (some ⟨g5,0,none⟩) N N) (il N (KV pn mn ml pl sl fn x N)).length (An (il N (KV pn mn ml pl sl fn x N))):=by
       rw[AJ,Ct];exact Bh aO (World.block_lt_of_cell? _ _ (aF.o.cell bW.o))
      have bR:∀v2 (e2:TypeId) (n2:Nat) bD,wr.ownsRow (F+1) e2 1 v2 n2 bD->AP (.slice (some ⟨g5,0,none⟩) N N) v2:=fun v2 e2 n2 bD h=>by
       right;show some g5≠_
       intro e;have h1:=(h.lt g5 e.symm).2;have h2:=aO.lt.1;have h3:=aF.o.size;omega
      have aZ:=Aa (aM.app1 bO (bR _ _ _ _ aG.o.rows.cvo) (by rw[aH.o];exact bC.o));rw[<-bU.o]at aZ;clear aM bO bR aK bE cD t1 cE bC aC bP bQ aO aI bX;go_wp2_with fail
      go_roundw
      case rel=>first|exact⟨k+1,_,_,ac,by go_num,aZ⟩|((repeat apply Exists.intro);exact⟨⟨k+1,_,_,ac,by go_num,aZ⟩,rfl⟩)
      case measure=>simp[intOf];omega
    .obtain rfl:k=rows.length:=by omega
     have aG:=Aa BA.o;obtain⟨c0,c1,c2,c3,c4,-,-,-⟩:=aA.o wr (aD.o.trans BA.o.ex);have t0:=BA.o.c0;have t1:=BA.o.c1;have aY:=Aa ((aB.o.trans aD.o).trans BA.o.ex);have bV:=Aa (aD.o.trans BA.o.ex);obtain⟨qa,qc,aW⟩:=Ae BA.o.rows.cvo;subst aW;have aH:=Aa (Ik (p:=pn) (m:=mn) (ml:=ml) (pl:=pl) (sl:=sl) (fr:=fn) (N:=N) (Nat.le_refl rows.length));have bB:=Aa (P9 wr pn mn ml _ (HM.o.ex aY.o) bZ.o.2.2 N _ _ aG.o.rows.msl (fun _=>by have:=bZ.o.1;omega));rw[aH.o]at t1 bB;clear BA;go_wp2_with fail
     refine bB.o.mono ?_;rintro e w7⟨hc,aS⟩;obtain⟨q0,q1,q2,q3,q4,bJ,bI,bH,bG,bF⟩:=BQ.o.ex (bV.o.trans aS);have X7:=Aa (aY.o.trans aS);have hw:=HB.o;have cM:=Aa (show B+1+1<wr.heap.size from World.block_lt_of_cell? _ _ (BQ.o.ex bV.o).c0);clear aS bB;rcases hc with⟨hne,rfl⟩|⟨hne,pn',mn',N',piv,a',rv,v',e1,e2,e3,hfb,hmk,rfl,hel,hv',hrv,hb',g,blk,cap,base,hbase,rfl,hem,hp2,hr2⟩
     .have cA:=Aa hne;have HFE:=Aa aR.o;obtain⟨Z,hZ⟩:=nA (KB pn mn ml N (Fd pn mn ml pl sl fn N rows rows.length));rw[hZ]at cA
      try rw[hZ]
      have HZ:=Aa hZ;clear hne hZ;go_wp2_with fail
      exact bodyPost_ret (v:= .tuple #[.agg #[.int .i64 0,.int .i64 0,.slice none 0 0,.int .i64 0,.slice none 0 0],.int .i64 Z]) bc rfl ⟨⟨0,aJ.o,.inr (.inr ⟨rfl,HE.o,.inl ⟨by rw[aR.o,HZ.o];exact cA.o,by rw[aR.o,HZ.o]⟩⟩)⟩,DT X7.o ac _ _ _ _ _⟩
     .have cH:=cM.o;have cG:=aY.o.size;obtain⟨cB,cV,cU,cS⟩:=Eq (((((hem.low (A:=⟨B+1+1,0,none⟩) cd (.int .i64 pn)).low (A:=⟨B+1+1,1,none⟩) cd (.int .i64 mn)).low (A:=⟨B+1+1,2,none⟩) cd v').low (A:=⟨B+1+1,3,none⟩) cd (.int .i64 N)).low (A:=⟨B+1+1,4,none⟩) cd (.slice (some ⟨g,0,none⟩) piv.length piv.length)) (show ∀B',v'.ownBlock=some B'->B'≠B+1+1 from fun B' h=>by have:=hb' B' h;omega) (show ∀B',v'.ownBlock=some B'->w.heap.size<=B' from fun B' h=>by have:=hb' B' h;omega) (show w.heap.size<=base from ac);have aQ:=Aa (show KB pn mn ml N (Fd pn mn ml pl sl fn N rows rows.length)=0/\FX pn mn ml/\BV (pn^mn) N (Fd pn mn ml pl sl fn N rows rows.length)=0/\Hs pn mn ml N (Fd pn mn ml pl sl fn N rows rows.length).length (Ao (Fd pn mn ml pl sl fn N rows rows.length)) a' piv from by
       obtain rfl:pn=pn':=ac;obtain rfl:mn=mn':=ac;obtain rfl:N=N':=ac;exact⟨hne,hfb,hmk,hel⟩)
      obtain rfl:N=N':=ac;obtain⟨cP,cQ,cR,cK,HEQ⟩:=Of hp2 hr2 (cB.o.msl hp2 hr2) hv' (show pn=pn'/\mn=mn' from⟨ac,ac⟩);obtain⟨xa,xc,rfl,-,-,-⟩:=hv'.open;clear hne hfb hmk hel hv' hrv hb' hbase hem hp2 hr2 cH cG e1 e2 e3;go_wp2_with fail
      exact bodyPost_ret (v:= .tuple #[.agg #[.int .i64 pn,.int .i64 mn,.slice xa ml.length xc,.int .i64 N,.slice (some ⟨g,0,none⟩) piv.length piv.length],.int .i64 0]) bc rfl ⟨⟨0,aJ.o,.inr (.inr ⟨rfl,HE.o,by rw[aR.o];exact .inr ⟨aQ.o.1,pn,mn,N,piv,a',_,_,rfl,rfl,rfl,aQ.o.2.1,aQ.o.2.2.1,rfl,aQ.o.2.2.2,Ke cK.o cV.o _ _ _ _ _,cR.o,cU.o,g,blk,cap,base,cS.o,rfl,cB.o,cP.o,cQ.o⟩⟩)⟩,DT X7.o ac _ _ _ _ _⟩
  .have k1:(E==0)=false:=by simpa using h0
   obtain⟨q0,q1,q2,q3,q4,bJ,bI,bH,bG,bF⟩:=BQ.o.ex aD.o;have H0:=Aa h0;have hw:=HB.o;clear h0;go_wp2_with fail
   exact bodyPost_ret (v:= .tuple #[.agg #[.int .i64 0,.int .i64 0,.slice none 0 0,.int .i64 0,.slice none 0 0],.int .i64 E]) bc rfl ⟨⟨0,aJ.o,.inr (.inl ⟨rfl,by rw[HE.o];exact H0.o,by rw[HE.o]⟩)⟩,DT (aB.o.trans aD.o) ac _ _ _ _ _⟩
 .have k1:(e1==0)=false:=by simpa using h1
  obtain⟨q0,q1,q2,q3,q4,bJ,bI,bH,bG,bF⟩:=BQ.o.ex aE.o;have H1:=Aa h1;have hw:=HB.o;clear h1;go_wp2_with fail
  exact bodyPost_ret (v:= .tuple #[.agg #[.int .i64 0,.int .i64 0,.slice none 0 0,.int .i64 0,.slice none 0 0],.int .i64 e1]) bc rfl ⟨⟨e1,aJ.o,.inl ⟨H1.o,rfl⟩⟩,DT (aB.o.trans aE.o) ac _ _ _ _ _⟩
def Eb(S:List (Nat->Nat))(x y:Nat):Prop:=∃f,Gn S f/\f x=y
theorem Eb.refl(S:List (Nat->Nat))(x:Nat):Eb S x x:=⟨Ej,.one,rfl⟩
theorem Eb.trans{S:List (Nat->Nat)}{x y z:Nat}(h:Eb S x y)(k:Eb S y z):Eb S x z:=by
 obtain⟨f,hf,rfl⟩:=h;obtain⟨g,hg,rfl⟩:=k;exact⟨_,hf.mul hg,rfl⟩
theorem Eb.symm{n:Nat}{S:List (Nat->Nat)}(hS:∀s∈S,Bd n s){x y:Nat}(h:Eb S x y):Eb S y x:=by
 obtain⟨f,hf,rfl⟩:=h;exact⟨_,hf.inv hS,(hf.isP hS).inv_l x⟩
theorem Eb.of{S:List (Nat->Nat)}{s:Nat->Nat}(h:s∈S)(x:Nat):Eb S x (s x):=⟨s,Gn.of h,rfl⟩
theorem Eb.lt{n:Nat}{S:List (Nat->Nat)}(hS:∀s∈S,Bd n s){x y:Nat}(hx:x<n)(h:Eb S x y):y<n:=by
 obtain⟨f,hf,rfl⟩:=h;exact(hf.isP hS).lt x hx
theorem Eb.closed{S:List (Nat->Nat)}{C:Nat->Prop}(hC:∀s∈S,∀x,C x->C (s x)){x y:Nat}(hx:C x)(h:Eb S x y):C y:=by
 obtain⟨f,hf,rfl⟩:=h
 induction hf with
 | one=>exact hx
 | step _ hs ih=>exact hC _ hs _ ih
def Ow(S:List (Nat->Nat))(i:Nat):Prop:=∀y,Eb S i y->i<=y
open Classical in
noncomputable def VA (n:Nat) (S:List (Nat->Nat)) (i:Nat):List Nat:=(List.range n).filter fun y=>decide (Eb S i y)
noncomputable def Rd(n:Nat)(S:List (Nat->Nat))(i:Nat):List Int:=(VA n S i).map fun (y:Nat)=>(y:Int)
open Classical in
noncomputable def Dt (n:Nat) (S:List (Nat->Nat)) (m:Nat):List (List Int):=((List.range m).filter fun i=>decide (Ow S i)).map (Rd n S)
open Classical in
theorem VP {n:Nat} {S:List (Nat->Nat)} {i y:Nat}:y∈VA n S i↔y<n/\Eb S i y:=by
 unfold VA;rw[List.mem_filter,List.mem_range,decide_eq_true_eq]
theorem Vz(n:Nat)(S:List (Nat->Nat))(i:Nat):(VA n S i).Pairwise (·< ·):=List.Pairwise.filter _ List.pairwise_lt_range
theorem Qj:∀ {l k:List Nat},l.Pairwise (·< ·)->k.Pairwise (·< ·)->(∀x,x∈l↔x∈k)->l=k
 | [], [],_,_,_=>rfl
 | [],b :: k,_,_,h=>absurd ((h b).2 (List.mem_cons_self ..)) (List.not_mem_nil)
 | a :: l, [],_,_,h=>absurd ((h a).1 (List.mem_cons_self ..)) (List.not_mem_nil)
 | a :: l,b :: k,hl,hk,h=>by
  obtain⟨aA,aC⟩:=List.pairwise_cons.1 hl;obtain⟨aB,aD⟩:=List.pairwise_cons.1 hk;have aE:a=b:=by
   rcases List.mem_cons.1 ((h a).1 (List.mem_cons_self ..)) with h1|h1
   .exact h1
   .rcases List.mem_cons.1 ((h b).2 (List.mem_cons_self ..)) with h2|h2
    .exact h2.symm
    .have:=aB a h1;have:=aA b h2;omega
  subst aE
  congr 1
  refine Qj aC aD fun x=>?_;constructor
  .intro hx;rcases List.mem_cons.1 ((h x).1 (List.mem_cons_of_mem _ hx)) with h1|h1
   .have:=aA x hx;omega
   .exact h1
  .intro hx;rcases List.mem_cons.1 ((h x).2 (List.mem_cons_of_mem _ hx)) with h1|h1
   .have:=aB x hx;omega
   .exact h1
theorem Kx(n:Nat)(S:List (Nat->Nat))(m:Nat):(Ow S m->Dt n S (m+1)=Dt n S m ++ [Rd n S m])/\(¬Ow S m->Dt n S (m+1)=Dt n S m):=by
 unfold Dt;rw[List.range_succ,List.filter_append,List.map_append];constructor
 .intro h;simp[List.filter,h]
 .intro h;simp[List.filter,h]
theorem TY(n:Nat)(S:List (Nat->Nat))(m:Nat):(Dt n S m).length<=m:=by
 unfold Dt;rw[List.length_map];exact Nat.le_trans (List.length_filter_le _ _) ag
def F6(S:List (Nat->Nat))(i x:Nat):Prop:=∃y,Eb S x y/\y<i
theorem Hc{S:List (Nat->Nat)}{i:Nat}:F6 S i i↔¬Ow S i:=by
 constructor
 .rintro⟨y,h1,h2⟩ h3;have:=h3 y h1;omega
 .intro h;apply Classical.byContradiction;intro h2;refine h fun y hy=>?_;apply Classical.byContradiction;intro h3;exact h2 ⟨y,hy,ac⟩
theorem Kg{n:Nat}{S:List (Nat->Nat)}(hS:∀s∈S,Bd n s){i x:Nat}:F6 S (i+1) x↔F6 S i x∨Eb S i x:=by
 constructor
 .rintro⟨y,h1,h2⟩;by_cases h:y<i
  .exact .inl ⟨y,h1,h⟩
  .have:y=i:=by omega
   subst this;exact .inr (h1.symm hS)
 .rintro (⟨y,h1,h2⟩|h)
  .exact⟨y,h1,ac⟩
  .exact⟨i,h.symm hS,ac⟩
theorem U7{n:Nat}{S:List (Nat->Nat)}(hS:∀s∈S,Bd n s){i x:Nat}(h:¬Ow S i):F6 S (i+1) x↔F6 S i x:=by
 rw[Kg hS];constructor
 .rintro (h1|h1)
  .exact h1
  .obtain⟨y,h2,h3⟩:=Hc.2 h;exact⟨y,(h1.symm hS).trans h2,h3⟩
 .exact .inl
structure ER(n:Nat)(S:List (Nat->Nat))(i:Nat)(q:List Nat)(k g:Nat):Prop where
 pos:q[0]?=some i
 nd:q.Nodup
 rch:∀x∈q,Eb S i x
 old:∀j x s,j<k->q[j]?=some x->s∈S->s x∈q
 cur:∀j x s,j<g->q[k]?=some x->S[j]?=some s->s x∈q
theorem ER.lt{n:Nat}{S:List (Nat->Nat)}(hS:∀s∈S,Bd n s){i:Nat}{q:List Nat}{k g:Nat}(hi:i<n)(h:ER n S i q k g):∀x∈q,x<n:=fun x hx=>(h.rch x hx).lt hS hi
theorem Ua{q:List Nat}(aA:q.Nodup){i j:Nat}(hi:i<q.length)(hj:j<q.length)(e:q[i]=q[j]):i=j:=by
 have h:=List.pairwise_iff_getElem.1 (List.nodup_iff_pairwise_ne.1 aA);rcases Nat.lt_trichotomy i j with h1|h1|h1
 .exact absurd e (h i j hi hj h1)
 .exact h1
 .exact absurd e.symm (h j i hj hi h1)
theorem T9:∀(n:Nat) (q:List Nat),q.Nodup->(∀x∈q,x<n)->q.length<=n:=by
 intro n q aB aC;apply Classical.byContradiction;intro hn;have aA:∀i,i<n+1->q.getD i 0<n:=fun i hi=>by
  rw[List.getD_eq_getElem?_getD,List.getElem?_eq_getElem ac];exact aC _ (List.getElem_mem _)
 obtain⟨x,hx,e⟩:=DY (n+1) (fun i=>q.getD i 0) (fun i hi=>by have:=aA i hi;omega) (fun i j hi hj e=>by
  simp only[List.getD_eq_getElem?_getD]at e;rw[List.getElem?_eq_getElem ac,List.getElem?_eq_getElem ac]at e;injection (show some q[i]=some q[j] from congrArg some e) with e;exact Ua aB ac ac e) n ac
 have:=aA x hx;omega
theorem ER.len{n:Nat}{S:List (Nat->Nat)}(hS:∀s∈S,Bd n s){i:Nat}{q:List Nat}{k g:Nat}(hi:i<n)(h:ER n S i q k g):1<=q.length/\q.length<=n:=
 ⟨by have:=(List.getElem?_eq_some_iff.1 h.pos).1;omega,T9 n q h.nd (h.lt hS hi)⟩
theorem ER.start(n:Nat)(S:List (Nat->Nat))(i:Nat):ER n S i [i] 0 0:=
 ⟨rfl,ag,fun x hx=>by rw[List.mem_singleton.1 hx];exact .refl _ _,fun j x s h=>ac,fun j x s h=>ac⟩
theorem ER.hit{n:Nat}{S:List (Nat->Nat)}{i:Nat}{q:List Nat}{k g x:Nat}{s:Nat->Nat}(h:ER n S i q k g)(hx:q[k]?=some x)(hs:S[g]?=some s)(hm:s x∈q):ER n S i q k (g+1):=
 ⟨h.pos,h.nd,h.rch,h.old,fun j y t hj hy ht=>by
  by_cases e:j=g
  .subst e;rw[hs]at ht;injection ht with ht;rw[hx]at hy;injection hy with hy;subst ht hy;exact hm
  .exact h.cur j y t ac hy ht⟩
theorem ER.new{n:Nat}{S:List (Nat->Nat)}{i:Nat}{q:List Nat}{k g x:Nat}{s:Nat->Nat}(h:ER n S i q k g)(hx:q[k]?=some x)(hs:S[g]?=some s)(hm:¬s x∈q):ER n S i (q ++ [s x]) k (g+1):=by
 have hk:=(List.getElem?_eq_some_iff.1 hx).1;have h0:=(List.getElem?_eq_some_iff.1 h.pos).1;refine⟨by rw[List.getElem?_append_left ac];exact h.pos,?_,fun y hy=>?_,fun j y t hj hy ht=>?_,fun j y t hj hy ht=>?_⟩
 .rw[List.nodup_append];exact⟨h.nd,ag,fun a ha b hb e=>by rw[List.mem_singleton.1 hb]at e;subst e;exact hm ha⟩
 .rcases List.mem_append.1 hy with h1|h1
  .exact h.rch y h1
  .rw[List.mem_singleton.1 h1];exact(h.rch x (List.mem_of_getElem? hx)).trans (.of (List.mem_of_getElem? hs) x)
 .rw[List.getElem?_append_left ac]at hy;exact List.mem_append_left _ (h.old j y t hj hy ht)
 .rw[List.getElem?_append_left hk]at hy;by_cases e:j=g
  .subst e;rw[hs]at ht;injection ht with ht;rw[hx]at hy;injection hy with hy;subst ht hy;simp
  .exact List.mem_append_left _ (h.cur j y t ac hy ht)
theorem ER.next{n:Nat}{S:List (Nat->Nat)}{i:Nat}{q:List Nat}{k g:Nat}(h:ER n S i q k g)(hg:S.length<=g):ER n S i q (k+1) 0:=
 ⟨h.pos,h.nd,h.rch,fun j y t hj hy ht=>by
  by_cases e:j=k
  .subst e;obtain⟨m,hm,e2⟩:=List.getElem_of_mem ht;exact h.cur m y t ac hy (by rw[List.getElem?_eq_getElem hm,e2])
  .exact h.old j y t ac hy ht,fun j y t hj=>ac⟩
theorem ER.fin{n:Nat}{S:List (Nat->Nat)}{i:Nat}{q:List Nat}{k g:Nat}(h:ER n S i q k g)(hk:q.length<=k)(y:Nat):y∈q↔Eb S i y:=by
 refine⟨h.rch y,fun hr=>?_⟩;refine Eb.closed (C:=fun x=>x∈q) (fun s hs x hx=>?_) (List.mem_of_getElem? h.pos) hr;obtain⟨j,hj,e⟩:=List.getElem_of_mem hx;exact h.old j x s ac ar hs
theorem ER.seen{n:Nat}{S:List (Nat->Nat)}{i:Nat}{q:List Nat}{k g x:Nat}{s:Nat->Nat}(hl:Ow S i)(h:ER n S i q k g)(hx:q[k]?=some x)(hs:S[g]?=some s)(hm:F6 S i (s x)∨s x∈q):s x∈q:=by
 rcases hm with⟨y,h1,h2⟩|h1
 .have:=hl y (((h.rch x (List.mem_of_getElem? hx)).trans (.of (List.mem_of_getElem? hs) x)).trans h1);omega
 .exact h1
end Go.Proofs.YtehieobniamagaaGreat
