/- Walk of equivalence.CheckRefutation. -/
import Derived.Laws.EntriesVeiled
import Derived.Test.YtehieobniamagaaGreatZa22
namespace Go.Proofs.YtehieobniamagaaGreat
open Go.RowKit
set_option linter.all false
set_option maxRecDepth 100000
set_option maxHeartbeats 8000000
theorem Y6(w:World)(ev:Value):(w.alloc (.cells #[ev] 94)).cell? ⟨w.heap.size,0,none⟩=some ev:=ag
def YR(c d:AU)(es:List Rf)(tl sl:List Int):Nat × Int:=WK c.p.toNat c.m.toNat c.ml c.rows d.rows c.n.toNat es (c.n.toNat-tl.length) 0 tl sl
def Zi(E:Int)(R:Nat × Int)(es:List Rf):Int:=if E≠0 then E else if R.2=0/\R.1<es.length then 13 else R.2
theorem F6(w:World)(c d:AU)(m1 m2 v1 v2:Value)(hc:c.at w m1 v1)(hd:d.at w m2 v2)(tl sl:List Int)(tv sv:Value)(ht:Aj w tv tl)(hs:Aj w sv sl)(es:List Rf)(ev:Value)(hr:OH w ev es):
  Calls Tryz.prog 133 #[c.arg m1 v1,d.arg m2 v2,.agg #[tv,sv],.agg #[ev]] w fun r w'=>(∃e1 e2:Int,Ce c.p c.m c.ml c.n c.rows e1/\(e1=0->Ce d.p d.m d.ml d.n d.rows e2)/\r= .returned (.int .i64 (Zi (EY e1 e2 (Cq c.p c.m c.ml d.p d.m d.ml) c.n d.n tl sl (c.p.toNat^c.m.toNat)) (YR c d es tl sl) es)))/\Ex w w':=by
 obtain⟨c0,c1,c2,c3,c4⟩:=Dp w c m1 v1;obtain⟨d0,d1,d2,d3,d4⟩:=Dp (w.alloc (c.obj m1 v1)) d m2 v2;obtain⟨b0,b1,e3,aY⟩:=AH ((w.alloc (c.obj m1 v1)).alloc (d.obj m2 v2)) tv sv;have aI:=Y6 (((w.alloc (c.obj m1 v1)).alloc (d.obj m2 v2)).alloc (.cells #[tv,sv] 71)) ev;have aZ:(w.alloc (c.obj m1 v1)).heap.size=w.heap.size+1:=ag;have aO:((w.alloc (c.obj m1 v1)).alloc (d.obj m2 v2)).heap.size=w.heap.size+1+1:=ag;have e1:=AE w (c.obj m1 v1);have e2:=AE (w.alloc (c.obj m1 v1)) (d.obj m2 v2);have e4:=AE (((w.alloc (c.obj m1 v1)).alloc (d.obj m2 v2)).alloc (.cells #[tv,sv] 71)) (.cells #[ev] 94);rw[aY,aO]at aI;rw[aZ]at d0 d1 d2 d3 d4;rw[aO]at b0 b1;have aC:=e1.trans (e2.trans (e3.trans e4));replace c0:=(e2.trans (e3.trans e4)).cell c0;replace c1:=(e2.trans (e3.trans e4)).cell c1;replace c2:=(e2.trans (e3.trans e4)).cell c2;replace c3:=(e2.trans (e3.trans e4)).cell c3;replace c4:=(e2.trans (e3.trans e4)).cell c4;replace d0:=(e3.trans e4).cell d0;replace d1:=(e3.trans e4).cell d1;replace d2:=(e3.trans e4).cell d2;replace d3:=(e3.trans e4).cell d3;replace d4:=(e3.trans e4).cell d4;replace b0:=e4.cell b0;replace b1:=e4.cell b1;obtain⟨B,hB⟩:=nA w.heap.size;rw[hB]at c0 c1 c2 c3 c4 d0 d1 d2 d3 d4 b0 b1 aI;have aL:=Aa (GZ _ c d m1 m2 v1 v2 (hc.ex aC) (hd.ex aC) tl sl tv sv (ht.ex aC) (hs.ex aC));obtain⟨ta,tc,rfl,-,t2,-⟩:=ht.open;obtain⟨sa,sc,rfl,-,s2,-⟩:=hs.open;obtain⟨x1,y1,rfl,-,z1,-⟩:=hc.g.open;obtain⟨x2,y2,rfl,-,z2,-⟩:=hd.g.open;obtain⟨x3,y3,rfl,-,z3,-⟩:=hc.m.open;obtain⟨x4,y4,rfl,-,z4,-⟩:=hd.m.open;unfold maxLen at t2 s2 z1 z2 z3 z4;obtain⟨HX,HC,HD,HT,HS,HR,aS⟩:=OK aC hc hd ht hs hr aI;obtain⟨ra,rc,rfl,bJ,-,-⟩:=Ng hr;unfold maxLen at bJ;have HWB:=Aa hB;clear hc hd ht hs hr e1 e2 e3 e4 aZ aO aY aC aI;unfold AU.arg at aL ⊢;go_enter Tryz.func133,Tryz.ntmps133
 unfold AU.obj at c0 c1 c2 c3 c4 d0 d1 d2 d3 d4 b0 b1 HX aS aL;go_upto_region 1 with fail
 try simp only[hB]
 clear hB;generalize (((w.alloc (.cells #[.int .i64 c.p,.int .i64 c.m,.slice x3 c.ml.length y3,.int .i64 c.n,.slice x1 c.rows.length y1] 39)).alloc (.cells #[.int .i64 d.p,.int .i64 d.m,.slice x4 d.ml.length y4,.int .i64 d.n,.slice x2 d.rows.length y2] 39)).alloc (.cells #[.slice ta tl.length tc,.slice sa sl.length sc] 71)).alloc (.cells #[.slice ra es.length rc] 94)=w1 at *;have B0:=Aa b0;have B1:=Aa b1;go_wp2_with fail
 refine aL.o.mono ?_;rintro e w3⟨ho,bA⟩;have aK:=Aa bA;obtain⟨e1,e2,bC,aF,ho⟩:=ho;have aM:=Aa bC;have bE:=Aa aF;clear c0 c1 c2 c3 c4 d0 d1 d2 d3 d4 bA bC aF aL b0 b1;obtain⟨E,hE⟩:=nA (EY e1 e2 (Cq c.p c.m c.ml d.p d.m d.ml) c.n d.n tl sl (c.p.toNat^c.m.toNat));rw[hE]at ho;have HE:=Aa hE;rcases ho with⟨h0,ptr,rfl⟩|⟨h0,w2,A,b,x0,pn,mn,nn,hp,hm,hnn,rfl,hx2,hg,hx01,hx02,hA,hx23,hpr,h11,hf11⟩
 .have hb0:(E !=0)=true:=by simpa using h0
  have H0:=Aa h0;clear h0 hE;go_wp2_with fail
  go_ret;refine⟨⟨e1,e2,aM.o,bE.o,?_⟩,(HX.o.trans aK.o).alloc _⟩;rw[HE.o];unfold Zi;rw[if_pos H0.o];rfl
 .subst h0;obtain⟨k1,k2,k3,k4,k5,k6,k7,k8,k9⟩:=OM hE;subst k1;have aF:=bE.o rfl;subst k2;obtain⟨aX,aV⟩:=CH aM.o;obtain⟨aW,aU⟩:=CH aF;obtain⟨-,bI,bH⟩:=Eu aM.o;obtain⟨SB,aJ⟩:∃B,w3.heap.size=B:=⟨_,rfl⟩;have aA:=HX.o.trans hx2;have b0:=aK.o.cell B0.o;have b1:=aK.o.cell B1.o;have r0:=aK.o.cell aS.o;have HK:=Aa (show c.n=d.n/\tl.length=sl.length/\(tl.length:Int)<=c.n/\Bz tl c.n=true from⟨k4,k5,k6,k7⟩);have aB:=Aa (show c.p=pn/\c.m=mn/\c.n=nn from⟨hp,hm,hnn⟩);clear aS hp hm hnn k3 k4 k5 k6 k7 k8 k9 hE;go_upto_region 7 with fail
  have f1:=AE w3 (.cells #[.pointer (some ⟨A,0,none⟩)] 186);have f2:=AE (w3.alloc (.cells #[.pointer (some ⟨A,0,none⟩)] 186)) (.cells #[.int .i64 0] 3);have f3:=AE ((w3.alloc (.cells #[.pointer (some ⟨A,0,none⟩)] 186)).alloc (.cells #[.int .i64 0] 3)) (.cells #[Hp (SB+1) (B+1+1+1) SB (SB+1+1)] 216);have aT:(w3.alloc (.cells #[.pointer (some ⟨A,0,none⟩)] 186)).cell? ⟨SB,0,none⟩=some (.pointer (some ⟨A,0,none⟩)):=AK _ _ _ aJ;have aH:(w3.alloc (.cells #[.pointer (some ⟨A,0,none⟩)] 186)).heap.size=SB+1:=by simp[aJ]
  have aR:((w3.alloc (.cells #[.pointer (some ⟨A,0,none⟩)] 186)).alloc (.cells #[.int .i64 0] 3)).cell? ⟨SB+1,0,none⟩=some (.int .i64 0):=AK _ _ _ aH;have bD:((w3.alloc (.cells #[.pointer (some ⟨A,0,none⟩)] 186)).alloc (.cells #[.int .i64 0] 3)).frozen? ⟨SB+1,0,none⟩=false:=EN _ _ _ aH;have bB:((w3.alloc (.cells #[.pointer (some ⟨A,0,none⟩)] 186)).alloc (.cells #[.int .i64 0] 3)).heap.size=SB+1+1:=by simp[aJ]
  have aQ:(((w3.alloc (.cells #[.pointer (some ⟨A,0,none⟩)] 186)).alloc (.cells #[.int .i64 0] 3)).alloc (.cells #[Hp (SB+1) (B+1+1+1) SB (SB+1+1)] 216)).cell? ⟨SB+1+1,0,none⟩=some (Hp (SB+1) (B+1+1+1) SB (SB+1+1)):=AK _ _ _ bB;have aD:=hx23.trans f1;have aG:=Aa (show Z0 pn mn c.ml c.rows d.rows nn A b x0 (B+1+1+1) SB (.slice x1 c.rows.length y1) (.slice x2 d.rows.length y2) (.slice ra es.length rc) es (w3.alloc (.cells #[.pointer (some ⟨A,0,none⟩)] 186)) from
   { pr:=hpr.ex f1,gf:=hg.ex aD,m1:=(HC.o.g.ex aA).ex aD,m2:=(HD.o.g.ex aA).ex aD,x1:=hx01,x2:=hx02,n64:=by have:=aB.o.2.2;omega,r1:=fun r hr=>by have:=aV r hr;have:=aB.o.2.2;omega,r2:=fun r hr=>by have:=aU r hr;have:=aB.o.2.2;have:=HK.o.1;omega,k1:=aX,k2:=aW,rb:=f1.cell r0,sb:=aT,rs:=(HR.o.ex aA).ex aD })
  have bF:=Aa (show Fd (w3.alloc (.cells #[.pointer (some ⟨A,0,none⟩)] 186)) (SB+1) (SB+1+1) (Hp (SB+1) (B+1+1+1) SB (SB+1+1)) es.length 0 (((w3.alloc (.cells #[.pointer (some ⟨A,0,none⟩)] 186)).alloc (.cells #[.int .i64 0] 3)).alloc (.cells #[Hp (SB+1) (B+1+1+1) SB (SB+1+1)] 216)) from
   { ex:=f2.trans f3,c:=f3.cell aR,f:=f3.frz aR bD,fb:=aQ,ne:=ac,lb:=by rw[aH];omega,le:=Nat.zero_le _ })
  have HP:=Aa (fun (v:Value) (l:List Int) (h:Aj w v l)=>show Co (Q9 (SB+1)) (((w3.alloc (.cells #[.pointer (some ⟨A,0,none⟩)] 186)).alloc (.cells #[.int .i64 0] 3)).alloc (.cells #[Hp (SB+1) (B+1+1+1) SB (SB+1+1)] 216)) v l from by
   refine⟨h.ex (((aA.trans hx23).trans f1).trans (f2.trans f3)),fun hl X hX hd=>?_⟩;have h2:=h.ex (aA.trans hx23);obtain⟨a,cap,rfl,-,-,h5⟩:=h2.open;obtain⟨b',o,rfl,h6⟩:=h5 (List.length_pos_iff.2 hl);injection hX with hX;have hX:b'=X:=hX;have:=World.block_lt_of_cell? _ _ (h6 0 _ (Aw (List.length_pos_iff.2 hl)));have hd:X=SB+1:=hd;simp only at this;omega)
  have b0:=(f1.trans (f2.trans f3)).cell b0;have b1:=(f1.trans (f2.trans f3)).cell b1;have r0:=(f1.trans (f2.trans f3)).cell r0;have aN:=Aa (Pu aG.o (nn-tl.length) 0 _ tl sl (.slice ta tl.length tc) (.slice sa sl.length sc) (by have:=HK.o.2.2.1;have:=aB.o.2.2;omega) HK.o.2.1.symm (by have:=HK.o.2.2.2;rw[aB.o.2.2]at this;exact this) (fun h=>absurd rfl h) bF.o (HP.o _ _ HT.o) (HP.o _ _ HS.o));have hR:WK pn mn c.ml c.rows d.rows nn es (nn-tl.length) 0 tl sl=YR c d es tl sl:=by
   unfold YR;rw[aB.o.1,aB.o.2.1,aB.o.2.2];rfl
  rw[hR]at aN;have fb1:=Aa aQ;unfold Hp at b0 b1 r0 aQ aN bF f3;have bK:=Aa (aA.trans aD);have bG:=aG.o.rb;clear aD aA aH bB aT aR bD f1 f2 HP hx23 hpr hg hx01 hx02 hA h11 hf11 hx2 aX aW aV aU bI bH hR;generalize ((w3.alloc (.cells #[.pointer (some ⟨A,0,none⟩)] 186)).alloc (.cells #[.int .i64 0] 3)).alloc (.cells #[.func (.func 180) #[] #[.pointer (some ⟨SB+1,0,none⟩),.pointer (some ⟨B+1+1+1,0,none⟩),.pointer (some ⟨SB,0,none⟩),.pointer (some ⟨SB+1+1,0,none⟩)]] 216)=w6 at *;obtain⟨R,hR⟩:=nA (YR c d es tl sl);rw[hR]at aN;have bM:=Aa hR
  try simp only[aJ]
  clear hR;have aP:R.1<=es.length∨True:=Or.inr trivial;clear aP;go_wp2_with (go_at_call 180;refine aN.o.mono ?_;rintro e7 w7⟨rfl,aE,-⟩;have bL:=Aa aE;have a7:=aE.c;have r7:=aE.ex.cell bG;have hl7:=aE.le;clear aE)
  all_goals
   go_ret;refine⟨⟨0,0,aM.o,fun _=>aF,?_⟩,bK.o.trans bL.o.ex⟩;rw[HE.o,bM.o];unfold Zi
   simp_all
structure Sg(w1 wr:World)(E:Nat)(n:Int)(M:List (List Int))(rv:Value)(vals:List Value):Prop where
 c0:wr.cell? ⟨E,0,none⟩=some (.int .i64 n)
 c1:wr.cell? ⟨E,1,none⟩=some rv
 f1:wr.frozen? ⟨E,1,none⟩=false
 rows:BA wr (E+1) rv M vals
 lb:w1.heap.size<=E
 ex:Ex w1 wr
section
variable {w1 wr w':World} {E:Nat} {n:Int} {M:List (List Int)} {rv v' l:Value} {vals:List Value} {L:List Int}
theorem Sg.later(h:Sg w1 wr E n M rv vals)(hx:Ex wr w'):Sg w1 w' E n M rv vals:=
 ⟨hx.cell h.c0,hx.cell h.c1,hx.frz h.c1 h.f1,h.rows.ex hx,h.lb,h.ex.trans hx⟩
theorem Sg.at1(h:Sg w1 wr E n M rv vals)(ha:AZ wr w' (E+1) 22 1 rv v' M.length vals [l]):w'.cell? ⟨E,1,none⟩=some rv/\w'.frozen? ⟨E,1,none⟩=false:=
 ⟨ha.cell h.c1 (fun e=>DN h.rows.cvo e.symm),ha.frz h.c1 h.f1 (fun e=>DN h.rows.cvo e.symm)⟩
theorem Sg.app1(h:Sg w1 wr E n M rv vals)(hl:wr.ownsRow (E+1) 3 1 l L.length (Al L))(h1:AJ l rv)(ha:AZ wr w' (E+1) 22 1 rv v' M.length vals [l]):
  Sg w1 (w'.setCell ⟨E,1,none⟩ v') E n (M ++ [L]) v' (vals ++ [l]):=by
 have aA:some E≠rv.ownBlock:=fun e=>DN h.rows.cvo e.symm;have hm:=h.rows.app hl h1 ha;refine⟨?_,World.cell?_setCell_same _ _ _ (ha.cell h.c1 aA),?_,hm.setNe (a:=⟨E,1,none⟩) (by show E<E+1;omega) v',h.lb,(ha.ex h.ex (by have:=h.lb;omega)).setCell (p:=⟨E,1,none⟩) h.lb _⟩
 .exact zaW
 .rw[Ar];exact ha.frz h.c1 h.f1 aA
end
theorem Sg.new(w1:World)(n:Int):Sg w1 (w1.alloc (.cells #[.int .i64 n,.slice none 0 0] 137)) w1.heap.size n [] (.slice none 0 0) [] where
 c0:=ag
 c1:=ag
 f1:=ag
 rows:=BA.nil _ _
 lb:=Nat.le_refl _
 ex:=(Ex.refl _).alloc _
def Hn(p m:Nat)(ml pl sl:List Int)(fr N:Nat)(rows:List (List Int))(k:Nat):List (List Int):=(rows.take k).map fun x=>il N (Kc p m ml pl sl fr x N)
theorem IN{p m:Nat}{ml pl sl:List Int}{fr N:Nat}{rows:List (List Int)}{k:Nat}(h:k<=rows.length):(Hn p m ml pl sl fr N rows k).length=k:=by
 unfold Hn;simp;omega
theorem TJ{p m:Nat}{ml pl sl:List Int}{fr N:Nat}{rows:List (List Int)}{k:Nat}(h:k<rows.length):Hn p m ml pl sl fr N rows (k+1)=Hn p m ml pl sl fr N rows k ++ [il N (Kc p m ml pl sl fr (rows[k]'h) N)]:=by
 unfold Hn;rw[List.take_add_one,List.getElem?_eq_getElem h,List.map_append];rfl
def YN(p m:Int)(ml pl sl:List Int)(fr n:Int)(rows:List (List Int)):List (List Int):=Hn p.toNat m.toNat ml pl sl fr.toNat n.toNat rows rows.length
def Ym(p m:Int)(ml:List Int)(n:Int)(rows:List (List Int))(pl sl:List Int)(fr:Int)(b0:Nat)(r:Ending)(w':World):Prop:=
 ∃e1:Int,Ce p m ml n rows e1/\
  ((e1≠0/\r= .returned (.tuple #[.agg #[.int .i64 0,.int .i64 0,.slice none 0 0,.int .i64 0,.slice none 0 0],.int .i64 e1]))∨
  (e1=0/\BF p m ml n pl sl fr≠0/\r= .returned (.tuple #[.agg #[.int .i64 0,.int .i64 0,.slice none 0 0,.int .i64 0,.slice none 0 0],.int .i64 (BF p m ml n pl sl fr)]))∨
  (e1=0/\BF p m ml n pl sl fr=0/\WX p m ml n (YN p m ml pl sl fr n rows) b0 r w'))
theorem bf{P:Prop}(h:P:=by simp[results,Tryz.results39,go_sem,q0,q1,q2,q3,q4]):P:=h
theorem b8{P:Prop}(h:P:=by show B+1+1<base;omega):P:=h
theorem Sa(w:World)(p m:Int)(ml:List Int)(mv:Value)(aX:Aj w mv ml)(n:Int)(rows:List (List Int))(v:Value)(hv:BT w v rows)(pl sl:List Int)(pv sv:Value)(hp:Aj w pv pl)(hs:Aj w sv sl)(fr:Int):
  Calls Tryz.prog 39 #[.agg #[.int .i64 p,.int .i64 m,mv,.int .i64 n,v],.agg #[pv,sv,.int .i64 fr]] w fun r w'=>Ym p m ml n rows pl sl fr w.heap.size r w'/\Ex w w':=by
 obtain⟨c0,c1,c2,c3,c4,ea⟩:=Gt w p m mv n v;obtain⟨b0,b1,b2,eb⟩:=Ay (w.alloc (.cells #[.int .i64 p,.int .i64 m,mv,.int .i64 n,v] 39)) pv sv fr;have bT:(w.alloc (.cells #[.int .i64 p,.int .i64 m,mv,.int .i64 n,v] 39)).heap.size=w.heap.size+1:=ag;have aL:((w.alloc (.cells #[.int .i64 p,.int .i64 m,mv,.int .i64 n,v] 39)).alloc (.cells #[pv,sv,.int .i64 fr] 26)).heap.size=w.heap.size+1+1:=ag;rw[bT]at b0 b1 b2;replace c0:=eb.cell c0;replace c1:=eb.cell c1;replace c2:=eb.cell c2;replace c3:=eb.cell c3;replace c4:=eb.cell c4;obtain⟨HX,HM,HV,HP,HS⟩:=Of (ea.trans eb) aX hv hp hs;obtain⟨va,vc,rfl,-,q1,v3⟩:=hv.open;obtain⟨ma,mc,rfl,-,q2,-⟩:=aX.open;obtain⟨pa,pc,rfl,-,q3,-⟩:=hp.open;obtain⟨sa,sc,rfl,-,q4,-⟩:=hs.open;unfold maxLen at q1 q2 q3 q4;have V3:=Aa v3;obtain⟨B,hB⟩:=nA w.heap.size;rw[hB]at c0 c1 c2 c3 c4 b0 b1 b2 aL;clear aX hv hp hs ea eb bT v3;go_enter Tryz.func39,Tryz.ntmps39
 go_upto_region 1 with fail
 try simp only[hB]
 have HB:=Aa hB;clear hB;generalize (w.alloc (.cells #[.int .i64 p,.int .i64 m,.slice ma ml.length mc,.int .i64 n,.slice va rows.length vc] 39)).alloc (.cells #[.slice pa pl.length pc,.slice sa sl.length sc,.int .i64 fr] 26)=wB at *;have bq:=WB.new wB;rw[aL]at bq;have ec:Ex wB _:=AE wB (.cells #[.int .i64 0,.int .i64 0,.slice none 0 0,.int .i64 0,.slice none 0 0] 39);have bS:(wB.alloc (.cells #[.int .i64 0,.int .i64 0,.slice none 0 0,.int .i64 0,.slice none 0 0] 39)).heap.size=B+1+1+1:=by simp[aL]
 try simp only[aL]
 generalize wB.alloc (.cells #[.int .i64 0,.int .i64 0,.slice none 0 0,.int .i64 0,.slice none 0 0] 39)=wC at *;obtain⟨aA,BQ,aB,CSZ⟩:=Eq (fun w' (h:Ex wC w')=>(⟨h.cell (ec.cell c0),h.cell (ec.cell c1),h.cell (ec.cell c2),h.cell (ec.cell c3),h.cell (ec.cell c4),h.cell (ec.cell b0),h.cell (ec.cell b1),h.cell (ec.cell b2)⟩:_/\_/\_/\_/\_/\_/\_/\_)) bq (HX.o.trans ec) bS;have cC:=Aa (Df wC p m ml _ (HM.o.ex aB.o) n rows _ (HV.o.ex aB.o));clear c0 c1 c2 c3 c4 b0 b1 b2 bq ec bS aL HX;obtain⟨c0,c1,c2,c3,c4,b0,b1,b2⟩:=aA.o wC (Ex.refl _);go_wp2_with fail
 refine cC.o.mono ?_;rintro e w2⟨⟨e1,rfl,bN⟩,aU⟩;clear c0 c1 c2 c3 c4 b0 b1 b2 cC;obtain⟨c0,c1,c2,c3,c4,b0,b1,b2⟩:=aA.o w2 aU;have aE:=Aa aU;have aJ:=Aa bN;clear aU bN;by_cases h1:e1=0
 .subst h1;have HF:=Aa (Eu aJ.o);have HR:=Aa (CH aJ.o);have bA:=Aa (Hs w2 p m ml _ (HM.o.ex (aB.o.trans aE.o)) n pl sl _ _ (HP.o.ex (aB.o.trans aE.o)) (HS.o.ex (aB.o.trans aE.o)) fr);obtain⟨E,hE⟩:=nA (BF p m ml n pl sl fr);rw[hE]at bA;have HE:=Aa hE;clear hE;go_wp2_with fail
  refine bA.o.mono ?_;rintro e w3⟨ho,aT⟩;clear c0 c1 c2 c3 c4 b0 b1 b2 bA;obtain⟨c0,c1,c2,c3,c4,b0,b1,b2⟩:=aA.o w3 (aE.o.trans aT);have aD:=Aa (aE.o.trans aT);clear aT aE;rcases ho with⟨rfl,b,pn,mn,x0,rfl,rfl,rfl,hg,x1,x2'⟩|⟨h0,ptr,rfl⟩
  .obtain⟨_,n1,n2,n3,n4,n5,n6,n7,_,_⟩:=Gi HE.o;obtain⟨fn,rfl⟩:∃fn:Nat,fr=fn:=⟨fr.toNat,ac⟩;obtain⟨N,rfl⟩:∃N:Nat,n=N:=⟨n.toNat,ac⟩;have HR2:=HR.o.1;have bL:∀r∈rows,r.length=N:=fun r hr=>by have:=HR.o.2 r hr;omega
   obtain⟨cO,bZ,cT,aR⟩:=Eq bL (show 1<=N/\N<=64/\ml.length<=1000 from⟨ac,ac,by have h:=hg.sh.len;have h8:=hg.sh.m8;rw[h];split <;> omega⟩) (fun (w1:World) (h1:Ex w3 w1) (x:List Int) (xv:Value) (hx:Aj w1 xv x) (cF:x.length=N)=>RL w1 (hg.ex h1) N ac pl sl x _ _ xv (HP.o.ex ((aB.o.trans aD.o).trans h1)) (HS.o.ex ((aB.o.trans aD.o).trans h1)) hx fn ac ac ac cF n5) (show YN pn mn ml pl sl fn N rows=Hn pn mn ml pl sl fn N rows rows.length from by unfold YN;simp only[Int.toNat_natCast]);clear n1 n2 n3 n4 n5 n6 n7 bL x1 x2' hg HR;go_upto_region 8 with fail
   obtain⟨F,hF⟩:=nA w3.heap.size;have aV:=Sg.new w3 (N:Int)
   try simp only[hF]
   rw[hF]at aV;have bY:=Aa aV;have HFW:=Aa hF;have ec:=AE w3 (.cells #[.int .i64 N,.slice none 0 0] 137);generalize w3.alloc (.cells #[.int .i64 N,.slice none 0 0] 137)=w4 at *;clear c0 c1 c2 c3 c4 b0 b1 b2 hF aV;obtain⟨c0,c1,c2,c3,c4,b0,b1,b2⟩:=aA.o w4 (aD.o.trans ec);have EC:=Aa ec;clear ec;go_wp2_with fail
   go_loopw [37] (fun i' wr=>∃(k:Nat) (rv:Value) (vals:List Value),k<=rows.length/\i'= .int .i64 k/\Hia (Sg w3 wr F N (Hn pn mn ml pl sl fn N rows k) rv vals)) (fun i' _=>rows.length-(intOf i').toNat)
   case atStart=>exact⟨0,_,_,ac,rfl,bY⟩
   case round=>
    clear bY c0 c1 c2 c3 c4 b0 b1 b2;obtain⟨k,rv,vals,hk,rfl,Bd⟩:=hrel;by_cases hkR:k<rows.length
    .obtain⟨rb,ro,rfl,bM⟩:=V3.o ac;obtain⟨uv,bK,aN⟩:=bM k _ (List.getElem?_eq_getElem hkR);have aP:=Aa Bd.o.ex;have cu:=((aB.o.trans aD.o).trans aP.o).cell bK;have i1:(0:Int)<=(k:Int):=by omega
     have i2:(k:Int)<(rows.length:Int):=ac;obtain⟨x,hx⟩:=nA (rows[k]);have bU:=Aa (TJ (p:=pn) (m:=mn) (ml:=ml) (pl:=pl) (sl:=sl) (fr:=fn) (N:=N) hkR);have cJ:=Aa (show x.length=N from hx ▸ cO.o _ (List.getElem_mem hkR));rw[hx]at bU aN;have cL:=Aa (aN.ex ((aB.o.trans aD.o).trans aP.o));have aH:=Aa (IN (p:=pn) (m:=mn) (ml:=ml) (pl:=pl) (sl:=sl) (fr:=fn) (N:=N) hk);have aG:=Aa Bd.o;obtain⟨b0,b1,b2⟩:=(aA.o wr (aD.o.trans aP.o)).2.2.2.2.2;have t1:=Bd.o.c1;have T1F:=Aa Bd.o.f1;obtain⟨qa,qc,aW⟩:=Ab Bd.o.rows.cvo;subst aW;rw[IN ac]at t1;have bW:=Aa t1;obtain⟨ua,uc,rfl,-,u2,-⟩:=aN.open;unfold maxLen at u2;have bX:=Aa (fun (w1:World) (h1:Ex wr w1)=>cT.o w1 (aP.o.trans h1) x _ (cL.o.ex h1) cJ.o);clear bM bK aN hx Bd;go_upto_region 11 with fail
     have aF:=Aa (show Ex wr wr.drew from(Ex.refl wr).drew)
     go_region_law
      ((first
              | (refine BI bn _ _ _ bn (F+1) 22 (.slice none 0 0) 1 24 Tryz.underlying37 BB rfl ae (.slice qa k qc) k vals bn (by have h:=Ai aG.o.rows.cvo ((aF.o.trans aI).trans (AE w5 (.cells #[.slice (some ⟨g5,0,none⟩) N N] 22)));rw[aH.o]at h;exact h) _ 1 [.slice (some ⟨g5,0,none⟩) N N] bn (Sl.own (Ei w5 (.slice (some ⟨g5,0,none⟩) N N) 22)) aj ai ac (by have:=cN.o;simp;omega) ?_;intro v8 w8 aC bP bQ;have bC:=Aa (Ud (by have h:=Ai aG.o.rows.cvo (aF.o.trans aI);rw[aH.o]at h;exact h) aC bP bQ);obtain⟨bE,cD⟩:=(aG.o.later (aF.o.trans aI)).at1 (by rw[aH.o];exact bC.o);rw[aH.o]at bE;obtain⟨va8,vc8,cI⟩:=Ab aC;subst cI)
              | (go_simp;refine(bX.o _ aF.o).mono ?_;rintro e w5⟨g5,rfl,aO,aI⟩;have t1:=aI.cell (show wr.drew.cell? ⟨F,1,none⟩=some (.slice qa k qc) from bW.o);have cE:=(AE w5 (.cells #[.slice (some ⟨g5,0,none⟩) N N] 22)).cell t1;have cN:=Aa (show F+1<=w5.heap.size from by have h1:=aO.lt;have h2:=World.block_lt_of_cell? _ _ t1;exact h2);go_simp)))
     all_goals
      have aK:=aF.o.trans aI;have aM:=aG.o.later aK;have bO:w5.ownsRow (F+1) 3 1 (.slice (some ⟨g5,0,none⟩) N N) (il N (Kc pn mn ml pl sl fn x N)).length (Al (il N (Kc pn mn ml pl sl fn x N))):=by
       rw[AR,CO];exact Bq aO (World.block_lt_of_cell? _ _ (aF.o.cell bW.o))
      have bR:∀v2 (e2:TypeId) (n2:Nat) bD,wr.ownsRow (F+1) e2 1 v2 n2 bD->AJ (.slice (some ⟨g5,0,none⟩) N N) v2:=fun v2 e2 n2 bD h=>by
       right;show some g5≠_
       intro e;have h1:=(h.lt g5 e.symm).2;have h2:=aO.lt.1;have h3:=aF.o.size;omega
      have aZ:=Aa (aM.app1 bO (bR _ _ _ _ aG.o.rows.cvo) (by rw[aH.o];exact bC.o));rw[<-bU.o]at aZ;clear aM bO bR aK bE cD t1 cE bC aC bP bQ aO aI bX;go_wp2_with fail
      go_roundw
      case rel=>first|exact⟨k+1,_,_,ac,by go_num,aZ⟩|((repeat apply Exists.intro);exact⟨⟨k+1,_,_,ac,by go_num,aZ⟩,rfl⟩)
      case measure=>simp[intOf];omega
    .obtain rfl:k=rows.length:=by omega
     have aG:=Aa Bd.o;obtain⟨c0,c1,c2,c3,c4,-,-,-⟩:=aA.o wr (aD.o.trans Bd.o.ex);have t0:=Bd.o.c0;have t1:=Bd.o.c1;have aY:=Aa ((aB.o.trans aD.o).trans Bd.o.ex);have bV:=Aa (aD.o.trans Bd.o.ex);obtain⟨qa,qc,aW⟩:=Ab Bd.o.rows.cvo;subst aW;have aH:=Aa (IN (p:=pn) (m:=mn) (ml:=ml) (pl:=pl) (sl:=sl) (fr:=fn) (N:=N) (Nat.le_refl rows.length));have bB:=Aa (N5 wr pn mn ml _ (HM.o.ex aY.o) bZ.o.2.2 N _ _ aG.o.rows.msl (fun _=>by have:=bZ.o.1;omega));rw[aH.o]at t1 bB;clear Bd;go_wp2_with fail
     refine bB.o.mono ?_;rintro e w7⟨hc,aS⟩;obtain⟨q0,q1,q2,q3,q4,bJ,bI,bH,bG,bF⟩:=BQ.o.ex (bV.o.trans aS);have X7:=Aa (aY.o.trans aS);have hw:=HB.o;have cM:=Aa (show B+1+1<wr.heap.size from World.block_lt_of_cell? _ _ (BQ.o.ex bV.o).c0);clear aS bB;rcases hc with⟨hne,rfl⟩|⟨hne,pn',mn',N',piv,a',rv,v',e1,e2,e3,hfb,hmk,rfl,hel,hv',hrv,hb',g,blk,cap,base,hbase,rfl,hem,hp2,hr2⟩
     .have cA:=Aa hne;have HFE:=Aa aR.o;obtain⟨Z,hZ⟩:=nA (Jr pn mn ml N (Hn pn mn ml pl sl fn N rows rows.length));rw[hZ]at cA
      try rw[hZ]
      have HZ:=Aa hZ;clear hne hZ;go_wp2_with fail
      exact bodyPost_ret (v:= .tuple #[.agg #[.int .i64 0,.int .i64 0,.slice none 0 0,.int .i64 0,.slice none 0 0],.int .i64 Z]) bf rfl ⟨⟨0,aJ.o,.inr (.inr ⟨rfl,HE.o,.inl ⟨by rw[aR.o,HZ.o];exact cA.o,by rw[aR.o,HZ.o]⟩⟩)⟩,Dc X7.o ac _ _ _ _ _⟩
     .have cH:=cM.o;have cG:=aY.o.size;obtain⟨cB,cV,cU,cS⟩:=Eq (((((hem.low (A:=⟨B+1+1,0,none⟩) b8 (.int .i64 pn)).low (A:=⟨B+1+1,1,none⟩) b8 (.int .i64 mn)).low (A:=⟨B+1+1,2,none⟩) b8 v').low (A:=⟨B+1+1,3,none⟩) b8 (.int .i64 N)).low (A:=⟨B+1+1,4,none⟩) b8 (.slice (some ⟨g,0,none⟩) piv.length piv.length)) (show ∀B',v'.ownBlock=some B'->B'≠B+1+1 from fun B' h=>by have:=hb' B' h;omega) (show ∀B',v'.ownBlock=some B'->w.heap.size<=B' from fun B' h=>by have:=hb' B' h;omega) (show w.heap.size<=base from ac);have aQ:=Aa (show Jr pn mn ml N (Hn pn mn ml pl sl fn N rows rows.length)=0/\F5 pn mn ml/\BR (pn^mn) N (Hn pn mn ml pl sl fn N rows rows.length)=0/\OI pn mn ml N (Hn pn mn ml pl sl fn N rows rows.length).length (AQ (Hn pn mn ml pl sl fn N rows rows.length)) a' piv from by
       obtain rfl:pn=pn':=ac;obtain rfl:mn=mn':=ac;obtain rfl:N=N':=ac;exact⟨hne,hfb,hmk,hel⟩)
      obtain rfl:N=N':=ac;obtain⟨cP,cQ,cR,cK,HEQ⟩:=Of hp2 hr2 (cB.o.msl hp2 hr2) hv' (show pn=pn'/\mn=mn' from⟨ac,ac⟩);obtain⟨xa,xc,rfl,-,-,-⟩:=hv'.open;clear hne hfb hmk hel hv' hrv hb' hbase hem hp2 hr2 cH cG e1 e2 e3;go_wp2_with fail
      exact bodyPost_ret (v:= .tuple #[.agg #[.int .i64 pn,.int .i64 mn,.slice xa ml.length xc,.int .i64 N,.slice (some ⟨g,0,none⟩) piv.length piv.length],.int .i64 0]) bf rfl ⟨⟨0,aJ.o,.inr (.inr ⟨rfl,HE.o,by rw[aR.o];exact .inr ⟨aQ.o.1,pn,mn,N,piv,a',_,_,rfl,rfl,rfl,aQ.o.2.1,aQ.o.2.2.1,rfl,aQ.o.2.2.2,Jc cK.o cV.o _ _ _ _ _,cR.o,cU.o,g,blk,cap,base,cS.o,rfl,cB.o,cP.o,cQ.o⟩⟩)⟩,Dc X7.o ac _ _ _ _ _⟩
  .have k1:(E==0)=false:=by simpa using h0
   obtain⟨q0,q1,q2,q3,q4,bJ,bI,bH,bG,bF⟩:=BQ.o.ex aD.o;have H0:=Aa h0;have hw:=HB.o;clear h0;go_wp2_with fail
   exact bodyPost_ret (v:= .tuple #[.agg #[.int .i64 0,.int .i64 0,.slice none 0 0,.int .i64 0,.slice none 0 0],.int .i64 E]) bf rfl ⟨⟨0,aJ.o,.inr (.inl ⟨rfl,by rw[HE.o];exact H0.o,by rw[HE.o]⟩)⟩,Dc (aB.o.trans aD.o) ac _ _ _ _ _⟩
 .have k1:(e1==0)=false:=by simpa using h1
  obtain⟨q0,q1,q2,q3,q4,bJ,bI,bH,bG,bF⟩:=BQ.o.ex aE.o;have H1:=Aa h1;have hw:=HB.o;clear h1;go_wp2_with fail
  exact bodyPost_ret (v:= .tuple #[.agg #[.int .i64 0,.int .i64 0,.slice none 0 0,.int .i64 0,.slice none 0 0],.int .i64 e1]) bf rfl ⟨⟨e1,aJ.o,.inl ⟨H1.o,rfl⟩⟩,Dc (aB.o.trans aE.o) ac _ _ _ _ _⟩
theorem NM:(Tryz.prog.info? 129).map (fun i=>(i.zero,i.size,i.bytes))=some (some (.agg #[.int .i64 0,.int .i64 0,.int .i64 0,.slice none 0 0,.slice none 0 0]),5,72):=ah
structure BZ where
 i:Nat
 j:Nat
 a:Nat
def OG(k:Nat):List Int:=(List.range k).map fun (x:Nat)=>(x:Int)
theorem TL(k:Nat):OG (k+1)=OG k ++ [(k:Int)]:=by unfold OG;rw[List.range_succ,List.map_append];rfl
theorem FL(k:Nat):(OG k).length=k:=by unfold OG;simp
def OD(k:Nat):List Int:=List.replicate k 1
theorem S8(k:Nat):OD (k+1)=OD k ++ [(1:Int)]:=by unfold OD;rw[List.replicate_succ']
theorem FE(k:Nat):(OD k).length=k:=by unfold OD;simp
def BZ.tl(g:BZ):List Int:=OG g.i ++ [(g.j:Int)]
def BZ.sl(g:BZ):List Int:=OD g.i ++ [(g.a:Int)]
def Eo:List BZ->List (Value × Value)->List Value
 | g :: gs,c :: cs=> .int .i64 g.i :: .int .i64 g.j :: .int .i64 g.a :: c.1 :: c.2 :: Eo gs cs
 | _,_=> []
theorem NN:∀(L:List BZ) (os:List (Value × Value)) (i:Nat) (l:BZ) (o:Value × Value),L[i]?=some l->os[i]?=some o->(Eo L os)[5*i]?=some (.int .i64 l.i)/\(Eo L os)[5*i+1]?=some (.int .i64 l.j)/\(Eo L os)[5*i+2]?=some (.int .i64 l.a)/\(Eo L os)[5*i+3]?=some o.1/\(Eo L os)[5*i+4]?=some o.2
 | l' :: L,o' :: os,0,l,o,h,k=>by
  simp at h k;subst h k;exact⟨rfl,rfl,rfl,rfl,rfl⟩
 | l' :: L,o' :: os,i+1,l,o,h,k=>by
  have:=NN L os i l o ay (by simpa using k);rw[show 5*(i+1)=5*i+5 by omega,show 5*i+5+1=5*i+1+5 by omega,show 5*i+5+2=5*i+2+5 by omega,show 5*i+5+3=5*i+3+5 by omega,show 5*i+5+4=5*i+4+5 by omega];simpa[Eo]using this
 | [],os,i,l,o,h,k=>by simp at h
 | l' :: L, [],i,l,o,h,k=>by simp at k
theorem JG:∀(L:List BZ) (os:List (Value × Value)) (l:BZ) (o:Value × Value),os.length=L.length->Eo (L ++ [l]) (os ++ [o])=Eo L os ++ [.int .i64 l.i,.int .i64 l.j,.int .i64 l.a,o.1,o.2]
 | [], [],l,o,_=>rfl
 | l' :: L,o' :: os,l,o,h=>by
  have:=JG L os l o ay;simp only[List.cons_append,Eo,this]
 | [],o' :: os,l,o,h=>by simp at h
 | l' :: L, [],l,o,h=>by simp at h
def UN(b0:Nat)(w:World)(v:Value)(gs:List BZ):Prop:=∃cs:List (Value × Value),cs.length=gs.length/\Sl w v gs.length 5 (Eo gs cs)/\∀(i:Nat) (g:BZ) (c:Value × Value),gs[i]?=some g->cs[i]?=some c->(Aj w c.1 g.tl/\Aj w c.2 g.sl)/\(∀X,c.1.ownBlock=some X->b0<=X)/\∀X,c.2.ownBlock=some X->b0<=X
theorem UN.mono{b0 b1:Nat}{w:World}{v:Value}{L:List BZ}(h:UN b0 w v L)(hb:b1<=b0):UN b1 w v L:=by
 obtain⟨os,h1,h2,h3⟩:=h;exact⟨os,h1,h2,fun i l o a b=>⟨(h3 i l o a b).1,fun X e=>Nat.le_trans hb ((h3 i l o a b).2.1 X e),fun X e=>Nat.le_trans hb ((h3 i l o a b).2.2 X e)⟩⟩
theorem UN.open{b0:Nat}{w:World}{v:Value}{L:List BZ}(h:UN b0 w v L):∃a cap,v= .slice a L.length cap/\L.length<=cap/\cap<=maxLen/\
  (0<L.length->∃b o,a=some ⟨b,o,none⟩/\∀(i:Nat) (l:BZ),L[i]?=some l->∃u r,w.cell? ⟨b,o+5*i,none⟩=some (.int .i64 l.i)/\w.cell? ⟨b,o+(5*i+1),none⟩=some (.int .i64 l.j)/\w.cell? ⟨b,o+(5*i+2),none⟩=some (.int .i64 l.a)/\w.cell? ⟨b,o+(5*i+3),none⟩=some u/\w.cell? ⟨b,o+(5*i+4),none⟩=some r/\Aj w u l.tl/\Aj w r l.sl/\(∀X,u.ownBlock=some X->b0<=X)/\∀X,r.ownBlock=some X->b0<=X):=by
 obtain⟨os,h1,⟨h2,a,cap,h3,h4,h5,h6⟩,h7⟩:=h;refine⟨a,cap,h3,h4,h5,fun hn=>?_⟩;obtain⟨b,o,h8,h9⟩:=h6 hn;refine⟨b,o,h8,fun i l hl=>?_⟩;have hi:=(List.getElem?_eq_some_iff.1 hl).1;have ho:os[i]?=some (os[i]'ac):=List.getElem?_eq_getElem _;obtain⟨g1,g2,g3,g4,g5⟩:=NN L os i l _ hl ho;obtain⟨⟨k1,k2⟩,k3,k4⟩:=h7 i l _ hl ho;exact⟨_,_,h9 _ _ g1,h9 _ _ g2,h9 _ _ g3,h9 _ _ g4,h9 _ _ g5,k1,k2,k3,k4⟩
structure Lh(w1 wr:World)(B i j a:Nat)(pv sv:Value)(L0 L1:List Int):Prop where
 c0:wr.cell? ⟨B,0,none⟩=some (.int .i64 i)
 c1:wr.cell? ⟨B,1,none⟩=some (.int .i64 j)
 c2:wr.cell? ⟨B,2,none⟩=some (.int .i64 a)
 b0:wr.cell? ⟨B,3,none⟩=some pv
 b1:wr.cell? ⟨B,4,none⟩=some sv
 f0:wr.frozen? ⟨B,3,none⟩=false
 f1:wr.frozen? ⟨B,4,none⟩=false
 o0:wr.ownsRow w1.heap.size 3 1 pv L0.length (Al L0)
 o1:wr.ownsRow w1.heap.size 3 1 sv L1.length (Al L1)
 ap:AJ pv sv
 n0:∀X,pv.ownBlock=some X->X≠B
 n1:∀X,sv.ownBlock=some X->X≠B
 lb:w1.heap.size<=B
 ex:Ex w1 wr
section
variable {w1 wr w':World} {B i j a:Nat} {pv sv v':Value} {L0 L1:List Int} {x:Int}
theorem Lh.no0(h:Lh w1 wr B i j a pv sv L0 L1):some B≠pv.ownBlock:=fun e=>h.n0 B e.symm rfl
theorem Lh.no1(h:Lh w1 wr B i j a pv sv L0 L1):some B≠sv.ownBlock:=fun e=>h.n1 B e.symm rfl
theorem Lh.at0(h:Lh w1 wr B i j a pv sv L0 L1)(ha:AZ wr w' w1.heap.size 3 1 pv v' L0.length (Al L0) [.int .i64 x]):
  w'.cell? ⟨B,3,none⟩=some pv/\w'.frozen? ⟨B,3,none⟩=false:=⟨ha.cell h.b0 h.no0,ha.frz h.b0 h.f0 h.no0⟩
theorem Lh.at1(h:Lh w1 wr B i j a pv sv L0 L1)(ha:AZ wr w' w1.heap.size 3 1 sv v' L1.length (Al L1) [.int .i64 x]):
  w'.cell? ⟨B,4,none⟩=some sv/\w'.frozen? ⟨B,4,none⟩=false:=⟨ha.cell h.b1 h.no1,ha.frz h.b1 h.f1 h.no1⟩
theorem Lh.app0(h:Lh w1 wr B i j a pv sv L0 L1)(ha:AZ wr w' w1.heap.size 3 1 pv v' L0.length (Al L0) [.int .i64 x]):
  Lh w1 (w'.setCell ⟨B,3,none⟩ v') B i j a v' sv (L0 ++ [x]) L1:=by
 have hn:=ET.blk ha h.c0 h.n0;have hr:=ha.row h.o1 h.ap.symm;refine⟨?_,?_,?_,World.cell?_setCell_same _ _ _ (ha.cell h.b0 h.no0),?_,?_,?_,?_,?_,hr.2.symm,hn,h.n1,h.lb,(ha.ex h.ex (Nat.le_refl _)).setCell (p:=⟨B,3,none⟩) h.lb _⟩
 .rw[Af ae];exact ha.cell h.c0 h.no0
 .rw[Af ae];exact ha.cell h.c1 h.no0
 .rw[Af ae];exact ha.cell h.c2 h.no0
 .rw[Af ae];exact ha.cell h.b1 h.no0
 .rw[Ar];exact ha.frz h.b0 h.f0 h.no0
 .rw[Ar];exact ha.frz h.b1 h.f1 h.no0
 .have:=Ac (a:=⟨B,3,none⟩) ha.own (fun e=>hn B e rfl) v';exact zbN
 .exact Ac (a:=⟨B,3,none⟩) hr.1 (fun e=>h.n1 B e rfl) v'
theorem Lh.app1(h:Lh w1 wr B i j a pv sv L0 L1)(ha:AZ wr w' w1.heap.size 3 1 sv v' L1.length (Al L1) [.int .i64 x]):
  Lh w1 (w'.setCell ⟨B,4,none⟩ v') B i j a pv v' L0 (L1 ++ [x]):=by
 have hn:=ET.blk ha h.c0 h.n1;have hr:=ha.row h.o0 h.ap;refine⟨?_,?_,?_,?_,World.cell?_setCell_same _ _ _ (ha.cell h.b1 h.no1),?_,?_,?_,?_,hr.2,h.n0,hn,h.lb,(ha.ex h.ex (Nat.le_refl _)).setCell (p:=⟨B,4,none⟩) h.lb _⟩
 .rw[Af ae];exact ha.cell h.c0 h.no1
 .rw[Af ae];exact ha.cell h.c1 h.no1
 .rw[Af ae];exact ha.cell h.c2 h.no1
 .rw[Af ae];exact ha.cell h.b0 h.no1
 .rw[Ar];exact ha.frz h.b0 h.f0 h.no1
 .rw[Ar];exact ha.frz h.b1 h.f1 h.no1
 .exact Ac (a:=⟨B,4,none⟩) hr.1 (fun e=>h.n0 B e rfl) v'
 .have:=Ac (a:=⟨B,4,none⟩) ha.own (fun e=>hn B e rfl) v';exact zbO
end
theorem Lh.new(w1:World)(i j a:Nat):Lh w1 (w1.alloc (.cells #[.int .i64 i,.int .i64 j,.int .i64 a,.slice none 0 0,.slice none 0 0] 129)) w1.heap.size i j a (.slice none 0 0) (.slice none 0 0) [] []:=
 ⟨ag,ag,ag,ag,ag,ag,ag,World.ownsRow_nil _ _ _ _,World.ownsRow_nil _ _ _ _,AJ.nil _,by simp[Value.ownBlock],by simp[Value.ownBlock],Nat.le_refl _,(Ex.refl _).alloc _⟩
structure MV(w1 wr:World)(v:Value)(gs:List BZ)(cs:List (Value × Value)):Prop where
 ex:Ex w1 wr
 len:cs.length=gs.length
 own:wr.ownsRow w1.heap.size 129 5 v gs.length (Eo gs cs)
 at_:∀(i:Nat) (g:BZ) (c:Value × Value),gs[i]?=some g->cs[i]?=some c->(wr.ownsRow w1.heap.size 3 1 c.1 g.tl.length (Al g.tl)/\AJ c.1 v)/\(wr.ownsRow w1.heap.size 3 1 c.2 g.sl.length (Al g.sl)/\AJ c.2 v)
section
variable {w1 wr w' w0:World} {v v' pv sv:Value} {gs:List BZ} {cs:List (Value × Value)} {B:Nat}
theorem MV.nil(h:Ex w1 wr):MV w1 wr (.slice none 0 0) [] []:=⟨h,rfl,World.ownsRow_nil _ _ _ _,fun i x c h=>by simp at h⟩
theorem MV.later(h:MV w1 wr v gs cs)(hx:Ex wr w'):MV w1 w' v gs cs:=
 ⟨h.ex.trans hx,h.len,Ai h.own hx,fun i x c a b=>⟨⟨Ai (h.at_ i x c a b).1.1 hx,(h.at_ i x c a b).1.2⟩,⟨Ai (h.at_ i x c a b).2.1 hx,(h.at_ i x c a b).2.2⟩⟩⟩
theorem MV.gsl(h:MV w1 wr v gs cs):UN w1.heap.size wr v gs:=⟨cs,h.len,Sl.own h.own,fun i x c a b=>⟨⟨Sl.own (h.at_ i x c a b).1.1,Sl.own (h.at_ i x c a b).2.1⟩,fun X e=>((h.at_ i x c a b).1.1.lt X e).1,fun X e=>((h.at_ i x c a b).2.1.lt X e).1⟩⟩
theorem zcG{P:Prop}(h:P:=by
 have:=(List.getElem?_eq_some_iff.1 a).1;simp at this;omega):P:=h
theorem MV.app(h:MV w1 wr v gs cs){g:BZ}(hx:Lh w0 wr B g.i g.j g.a pv sv g.tl g.sl)(h0:∀X,v.ownBlock=some X->X<w0.heap.size)(hw:w1.heap.size<=w0.heap.size)
  (ha:AZ wr w' w1.heap.size 129 5 v v' gs.length (Eo gs cs) [.int .i64 g.i,.int .i64 g.j,.int .i64 g.a,pv,sv]):MV w1 w' v' (gs ++ [g]) (cs ++ [(pv,sv)]):=by
 refine⟨ha.ex h.ex (Nat.le_refl _),by simp[h.len],?_,fun i x c a b=>?_⟩
 .have:=ha.own;rw[JG gs cs g (pv,sv) h.len,List.length_append];exact this
 .by_cases hi:i<gs.length
  .rw[List.getElem?_append_left hi]at a;rw[List.getElem?_append_left (by rw[h.len];exact hi)]at b;obtain⟨⟨p1,p2⟩,⟨p3,p4⟩⟩:=h.at_ i x c a b;exact⟨ha.row p1 p2,ha.row p3 p4⟩
  .have aA:i=gs.length:=by
    exact zcG
   subst aA;rw[List.getElem?_append_right (Nat.le_refl _)]at a;rw[List.getElem?_append_right (by rw[h.len];exact Nat.le_refl _),h.len]at b;simp at a b;subst a b;exact⟨ha.row (EG hx.o0 hw) (Fv (fun X e=>(hx.o0.lt X e).1) h0),ha.row (EG hx.o1 hw) (Fv (fun X e=>(hx.o1.lt X e).1) h0)⟩
end
def gA(i j c:Nat):List BZ:=(List.range c).map fun a=>⟨i,j,a+1⟩
def gJ(q i k:Nat):List BZ:=(List.range k).flatMap fun j=>gA i (i+j) (q-1)
def gI(n q k:Nat):List BZ:=(List.range k).flatMap fun i=>gJ q i (n-i)
def Ds(n q:Nat):List BZ:=gI n q n
theorem V7(i j c:Nat):gA i j (c+1)=gA i j c ++ [⟨i,j,c+1⟩]:=by unfold gA;rw[List.range_succ,List.map_append];rfl
theorem Qx(q i k:Nat):gJ q i (k+1)=gJ q i k++gA i (i+k) (q-1):=by unfold gJ;rw[List.range_succ,List.flatMap_append];simp
theorem Qy(n q k:Nat):gI n q (k+1)=gI n q k++gJ q k (n-k):=by unfold gI;rw[List.range_succ,List.flatMap_append];simp
theorem TT(i j c:Nat):(gA i j c).length=c:=by unfold gA;simp
theorem Pt(q i:Nat)(hq:q<=256):∀k,(gJ q i k).length<=k*256
 | 0=>by unfold gJ;simp
 | k+1=>by
  rw[Qx,List.length_append,TT];have:=Pt q i hq k;omega
theorem Mk(n q:Nat)(hn:n<=64)(hq:q<=256):∀k,(gI n q k).length<=k*16384
 | 0=>by unfold gI;simp
 | k+1=>by
  rw[Qy,List.length_append];have:=Mk n q hn hq k;have:=Pt q k hq (n-k);omega
end Go.Proofs.YtehieobniamagaaGreat
