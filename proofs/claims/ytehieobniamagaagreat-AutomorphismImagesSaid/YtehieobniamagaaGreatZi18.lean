/- Walk of the pair's extensions, for both closures (printed by gen_ext.py). -/
import Derived.Test.YtehieobniamagaaGreatZi17
namespace Go.Proofs.YtehieobniamagaaGreat
open Go.World renaming cell?→ζc,cell?_setCell_same→φ,frozen?→ιl
set_option linter.all false
set_option maxRecDepth 100000
set_option maxHeartbeats 16000000
open Go.RowKit
theorem J6{w:World}{base:Nat}{e t:TypeId}{n:Nat}{v:Value}{xs:List Value}{g:Nat}{cs:Array Value}(h:w.ownsRow base e 1 v n xs)(hg:w.heap[g]?=some (.cells cs t))(he:e≠t):∀B,v.ownBlock=some B->B≠g:=by
 intro B hB e0;rcases h.2 with⟨h1,h2⟩|⟨g',cap,cur,h1,h2,h3,_⟩
 .rw[h1]at hB;cases hB
 .rw[h1]at hB;injection hB with hB;have hB:g'=B:=hB;subst hB e0;rw[hg]at h3;injection h3 with h3;injection h3 with _ h3;exact he h3.symm
theorem Vl(l:List Int)(x:Int):Aj l ++ [Value.int .i64 x]=Aj (l ++ [x]):=by unfold Aj;simp
theorem Il{w:World}{base:Nat}{v:Value}{l:List Int}{x:Int}(h:w.ownsRow base 3 1 v (l.length+1) (Aj l ++ [Value.int .i64 x])):w.ownsRow base 3 1 v (l ++ [x]).length (Aj (l ++ [x])):=by
 rw[<-Vl,List.length_append];exact h
structure Yu(wr wx:World)(qb:Nat)(tv sv:Value)(tl sl:List Int):Prop where
 c0:wx.cell? (qb,0)=some tv
 c1:wx.cell? (qb,1)=some sv
 t:Ak wx tv tl
 s:Ak wx sv sl
 tb:∀B,tv.ownBlock=some B->wr.heap.size<=B
 sb:∀B,sv.ownBlock=some B->wr.heap.size<=B
 ex:Ex wr wx
theorem Yu.of_set{wr wB:World}{qb:Nat}{tv sv:Value}{tl sl:List Int}{t:TypeId}(ht:3≠t)(o1:wB.ownsRow wr.heap.size 3 1 tv tl.length (Aj tl))(o2:wB.ownsRow wr.heap.size 3 1 sv sl.length (Aj sl))(hx:Ex wr wB)(hq:wr.heap.size<=qb)(hb:wB.heap[qb]?=some (.cells #[(),()] t)):
  Yu wr ((wB.setCell (qb,0) tv).setCell (qb,1) sv) qb tv sv tl sl:=by
 have hc:∀i,i<2->∃v,wB.cell? ⟨qb,i,none⟩=some v:=fun i hi=>by
  unfold ζc;rw[hb];rcases i with _ | _|i
  .exact⟨_,rfl⟩
  .exact⟨_,rfl⟩
  .omega
 have n1:=J6 o1 hb ht;have n2:=J6 o2 hb ht;have s1:((wB.setCell (qb,0) tv).setCell (qb,1) sv).ownsRow wr.heap.size 3 1 tv tl.length (Aj tl):=Ae (a:=⟨qb,1,none⟩) (Ae (a:=⟨qb,0,none⟩) o1 (fun e=>n1 qb e rfl) _) (fun e=>n1 qb e rfl) _;have s2:((wB.setCell (qb,0) tv).setCell (qb,1) sv).ownsRow wr.heap.size 3 1 sv sl.length (Aj sl):=Ae (a:=⟨qb,1,none⟩) (Ae (a:=⟨qb,0,none⟩) o2 (fun e=>n2 qb e rfl) _) (fun e=>n2 qb e rfl) _;obtain⟨u0,h0⟩:=hc 0 ac;obtain⟨u1,h1⟩:=hc 1 ac;refine⟨?_,φ _ _ _ (by rw[Af ae];exact h1),Sl.own s1,Sl.own s2,fun B h=>(o1.lt B h).1,fun B h=>(o2.lt B h).1,(hx.setCell (p:=⟨qb,0,none⟩) hq _).setCell (p:=⟨qb,1,none⟩) hq _⟩;rw[Af ae];exact φ _ _ _ h0
theorem Kg{w w':World}{B:Nat}{o:Obj}(h:Ex w w')(hb:w.heap[B]?=some o):w'.heap[B]?=some o:=by
 exact zcp
theorem D4{w:World}{B:Nat}{o:Obj}(hb:w.heap.size=B):(w.alloc o).heap[B]?=some o:=by
 subst hb;show(w.heap.push o)[w.heap.size]?=some o
 exact Array.getElem?_push_size
theorem M6{w:World}{B:Nat}{u v:Value}{t:TypeId}(h:w.heap[B]?=some (.cells #[u,v] t)):w.cell? (B,0)=some u/\w.cell? (B,1)=some v/\w.frozen? (B,0)=false/\w.frozen? (B,1)=false:=by
 refine⟨?_,?_,?_,?_⟩
 .unfold ζc;simp[h]
 .unfold ζc;simp[h]
 .unfold ιl;simp[h]
 .unfold ιl;simp[h]
theorem Kw{w:World}{B:Nat}{x:Value}{t:TypeId}(h:w.heap[B]?=some (.cells #[x] t)):Sl w (.slice (some (B,0)) 1 1) 1 1 [x]:=
 ⟨rfl,some ⟨B,0,none⟩,1,rfl,Nat.le_refl _,by unfold maxLen;omega,fun _=>⟨B,0,rfl,fun j u hu=>by
  rcases j with _|j
  .simp at hu;subst hu;unfold ζc;simp[h]
  .simp at hu⟩⟩
theorem Yu.later{wr w w':World}{qb:Nat}{tv sv:Value}{tl sl:List Int}(h:Yu wr w qb tv sv tl sl)(hx:Ex w w'):Yu wr w' qb tv sv tl sl:=
 ⟨hx.cell h.c0,hx.cell h.c1,h.t.ex hx,h.s.ex hx,h.tb,h.sb,h.ex.trans hx⟩
structure Em(wr:World)(BP:Nat)(tv sv:Value)(tl sl:List Int)(j c:Nat)(L:Nat->Bool)(V:Nat->Value)(w:World):Prop where
 ex:Ex wr w
 v0:L 0=true->V 0= .pointer (some (BP,0))
 v1:L 1=true->V 1=tv
 v2:L 2=true->L 5=false->w.ownsRow wr.heap.size 3 1 (V 2) tl.length (Aj tl)
 v3:L 3=true->V 3= .int .i64 j
 v4:L 4=true->L 5=false->∃B,V 4= .slice (some ⟨B,0,none⟩) 1 1/\w.heap[B]?=some (.cells #[(j:Int)] 3)
 v5:L 5=true->L 14=false->w.ownsRow wr.heap.size 3 1 (V 5) (tl ++ [(j:Int)]).length (Aj (tl ++ [(j:Int)]))
 v6:L 6=true->V 6= .pointer (some (BP,1))
 v7:L 7=true->V 7=sv
 v8:L 8=true->L 11=false->w.ownsRow wr.heap.size 3 1 (V 8) sl.length (Aj sl)/\AD (V 5) (V 8)
 v9:L 9=true->V 9= .int .i64 c
 v10:L 10=true->L 11=false->∃B,V 10= .slice (some ⟨B,0,none⟩) 1 1/\w.heap[B]?=some (.cells #[(c:Int)] 3)/\(L 2=true->L 5=false->(V 2).ownBlock≠some B)
 v11:L 11=true->L 14=false->w.ownsRow wr.heap.size 3 1 (V 11) (sl ++ [(c:Int)]).length (Aj (sl ++ [(c:Int)]))
 v12:L 12=true->V 12= .agg #[V 5,V 11]
 v13:L 13=true->L 14=false->∃qb,V 13= .pointer (some ⟨qb,0,none⟩)/\wr.heap.size<=qb/\w.heap[qb]?=some (.cells #[(),()] 71)
 v14:L 14=true->∃qb,V 13= .pointer (some ⟨qb,0,none⟩)/\Yu wr w qb (V 5) (V 11) (tl ++ [(j:Int)]) (sl ++ [(c:Int)])
section
variable {wr w w':World} {BP:Nat} {tv sv u:Value} {tl sl:List Int} {j c:Nat} {L:Nat->Bool} {V:Nat->Value}
theorem Em.grow(h:Em wr BP tv sv tl sl j c L V w)(hx:Ex w w'):Em wr BP tv sv tl sl j c L V w' where
 ex:=h.ex.trans hx
 v0:=h.v0
 v1:=h.v1
 v2:=fun a b=>Ag (h.v2 a b) hx
 v3:=h.v3
 v4:=fun a b=>by obtain⟨B,h1,h2⟩:=h.v4 a b;exact⟨B,h1,Kg hx h2⟩
 v5:=fun a b=>Ag (h.v5 a b) hx
 v6:=h.v6
 v7:=h.v7
 v8:=fun a b=>⟨Ag (h.v8 a b).1 hx,(h.v8 a b).2⟩
 v9:=h.v9
 v10:=fun a b=>by obtain⟨B,h1,h2,h3⟩:=h.v10 a b;exact⟨B,h1,Kg hx h2,h3⟩
 v11:=fun a b=>Ag (h.v11 a b) hx
 v12:=h.v12
 v13:=fun a b=>by obtain⟨B,h1,h2,h3⟩:=h.v13 a b;exact⟨B,h1,h2,Kg hx h3⟩
 v14:=fun a=>by obtain⟨B,h1,h2⟩:=h.v14 a;exact⟨B,h1,h2.later hx⟩
theorem Em.set0(h:Em wr BP tv sv tl sl j c L V w)(hu:u= .pointer (some (BP,0))):Em wr BP tv sv tl sl j c (Ay L 0 true) (Ay V 0 u) w:=
 ⟨h.ex,fun _=>hu,h.v1,h.v2,h.v3,h.v4,h.v5,h.v6,h.v7,h.v8,h.v9,h.v10,h.v11,h.v12,h.v13,h.v14⟩
theorem Em.set1(h:Em wr BP tv sv tl sl j c L V w)(hu:u=tv):Em wr BP tv sv tl sl j c (Ay L 1 true) (Ay V 1 u) w:=
 ⟨h.ex,h.v0,fun _=>hu,h.v2,h.v3,h.v4,h.v5,h.v6,h.v7,h.v8,h.v9,h.v10,h.v11,h.v12,h.v13,h.v14⟩
theorem Em.set3(h:Em wr BP tv sv tl sl j c L V w)(hu:u= .int .i64 j):Em wr BP tv sv tl sl j c (Ay L 3 true) (Ay V 3 u) w:=
 ⟨h.ex,h.v0,h.v1,h.v2,fun _=>hu,h.v4,h.v5,h.v6,h.v7,h.v8,h.v9,h.v10,h.v11,h.v12,h.v13,h.v14⟩
theorem Em.set6(h:Em wr BP tv sv tl sl j c L V w)(hu:u= .pointer (some (BP,1))):Em wr BP tv sv tl sl j c (Ay L 6 true) (Ay V 6 u) w:=
 ⟨h.ex,h.v0,h.v1,h.v2,h.v3,h.v4,h.v5,fun _=>hu,h.v7,h.v8,h.v9,h.v10,h.v11,h.v12,h.v13,h.v14⟩
theorem Em.set7(h:Em wr BP tv sv tl sl j c L V w)(hu:u=sv):Em wr BP tv sv tl sl j c (Ay L 7 true) (Ay V 7 u) w:=
 ⟨h.ex,h.v0,h.v1,h.v2,h.v3,h.v4,h.v5,h.v6,fun _=>hu,h.v8,h.v9,h.v10,h.v11,h.v12,h.v13,h.v14⟩
theorem Em.set9(h:Em wr BP tv sv tl sl j c L V w)(hu:u= .int .i64 c):Em wr BP tv sv tl sl j c (Ay L 9 true) (Ay V 9 u) w:=
 ⟨h.ex,h.v0,h.v1,h.v2,h.v3,h.v4,h.v5,h.v6,h.v7,h.v8,fun _=>hu,h.v10,h.v11,h.v12,h.v13,h.v14⟩
theorem Em.set2(h:Em wr BP tv sv tl sl j c L V w)(hu:w.ownsRow wr.heap.size 3 1 u tl.length (Aj tl))(hn:∀B,(∃o,w.heap[B]?=some o/\V 10= .slice (some ⟨B,0,none⟩) 1 1/\L 10=true/\L 11=false)->u.ownBlock≠some B):Em wr BP tv sv tl sl j c (Ay L 2 true) (Ay V 2 u) w:=
 ⟨h.ex,h.v0,h.v1,fun _ _=>hu,h.v3,h.v4,h.v5,h.v6,h.v7,h.v8,h.v9,fun a b=>by obtain⟨B,h1,h2,h3⟩:=h.v10 a b;exact⟨B,h1,h2,fun _ _=>hn B ⟨_,h2,h1,a,b⟩⟩,h.v11,h.v12,h.v13,h.v14⟩
theorem Em.set4(h:Em wr BP tv sv tl sl j c L V w){B:Nat}(hu:u= .slice (some (B,0)) 1 1)(hb:w.heap[B]?=some (.cells #[(j:Int)] 3)):Em wr BP tv sv tl sl j c (Ay L 4 true) (Ay V 4 u) w:=
 ⟨h.ex,h.v0,h.v1,h.v2,h.v3,fun _ _=>⟨B,hu,hb⟩,h.v5,h.v6,h.v7,h.v8,h.v9,h.v10,h.v11,h.v12,h.v13,h.v14⟩
theorem Em.set8(h:Em wr BP tv sv tl sl j c L V w)(hu:w.ownsRow wr.heap.size 3 1 u sl.length (Aj sl))(ha:AD (V 5) u):Em wr BP tv sv tl sl j c (Ay L 8 true) (Ay V 8 u) w:=
 ⟨h.ex,h.v0,h.v1,h.v2,h.v3,h.v4,h.v5,h.v6,h.v7,fun _ _=>⟨hu,ha⟩,h.v9,h.v10,h.v11,h.v12,h.v13,h.v14⟩
theorem Em.set10(h:Em wr BP tv sv tl sl j c L V w){B:Nat}(hu:u= .slice (some (B,0)) 1 1)(hb:w.heap[B]?=some (.cells #[(c:Int)] 3))(hn:L 2=true->L 5=false->(V 2).ownBlock≠some B):Em wr BP tv sv tl sl j c (Ay L 10 true) (Ay V 10 u) w:=
 ⟨h.ex,h.v0,h.v1,h.v2,h.v3,h.v4,h.v5,h.v6,h.v7,h.v8,h.v9,fun _ _=>⟨B,hu,hb,hn⟩,h.v11,h.v12,h.v13,h.v14⟩
theorem Em.set12(h:Em wr BP tv sv tl sl j c L V w)(hu:u= .agg #[V 5,V 11]):Em wr BP tv sv tl sl j c (Ay L 12 true) (Ay V 12 u) w:=
 ⟨h.ex,h.v0,h.v1,h.v2,h.v3,h.v4,h.v5,h.v6,h.v7,h.v8,h.v9,h.v10,h.v11,fun _=>hu,h.v13,h.v14⟩
theorem Em.set13(h:Em wr BP tv sv tl sl j c L V w)(aA:L 14=false){qb:Nat}(hu:u= .pointer (some (qb,0)))(hq:wr.heap.size<=qb)(hb:w.heap[qb]?=some (.cells #[(),()] 71)):Em wr BP tv sv tl sl j c (Ay L 13 true) (Ay V 13 u) w:=
 ⟨h.ex,h.v0,h.v1,h.v2,h.v3,h.v4,h.v5,h.v6,h.v7,h.v8,h.v9,h.v10,h.v11,h.v12,fun _ _=>⟨qb,hu,hq,hb⟩,fun a=>absurd (a.symm.trans aA) ae⟩
theorem a8{P:Prop}(h:P:=by show ¬(true=false);decide):P:=h
theorem Em.set5(h:Em wr BP tv sv tl sl j c L V w)(h2:L 2=true)(h5:L 5=false)(h8:L 8=false)(aD:L 11=false)(aC:L 12=false)(aB:L 14=false)(hx:Ex wr w')(hg:w.grownBy w' (V 2).ownBlock)(hu:w'.ownsRow wr.heap.size 3 1 u (tl ++ [(j:Int)]).length (Aj (tl ++ [(j:Int)]))):Em wr BP tv sv tl sl j c (Ay L 5 true) (Ay V 5 u) w' where
 ex:=hx
 v0:=h.v0
 v1:=h.v1
 v2:=fun _ b=>absurd b a8
 v3:=h.v3
 v4:=fun _ b=>absurd b a8
 v5:=fun _ _=>hu
 v6:=h.v6
 v7:=h.v7
 v8:=fun a=>absurd ((show L 8=true from a).symm.trans h8) ae
 v9:=h.v9
 v10:=fun a b=>by
  obtain⟨B,h1,h3,h4⟩:=h.v10 a b;refine⟨B,h1,?_,fun _ b=>absurd b a8⟩;have aA:B<w.heap.size:=(Array.getElem?_eq_some_iff.1 h3).1;rw[hg.block B aA (fun e=>h4 h2 h5 e.symm)];exact h3
 v11:=fun a=>absurd ((show L 11=true from a).symm.trans aD) ae
 v12:=fun a=>absurd ((show L 12=true from a).symm.trans aC) ae
 v13:=fun a b=>by
  obtain⟨B,h1,h3,h4⟩:=h.v13 a b;refine⟨B,h1,h3,?_⟩;have aA:B<w.heap.size:=(Array.getElem?_eq_some_iff.1 h4).1;rw[hg.block B aA (fun e=>J6 (h.v2 h2 h5) h4 ae B e.symm rfl)];exact h4
 v14:=fun a=>absurd ((show L 14=true from a).symm.trans aB) ae
theorem Em.set11(h:Em wr BP tv sv tl sl j c L V w)(h5:L 5=true)(h8:L 8=true)(aA:L 11=false)(aD:L 12=false)(aC:L 14=false)(hx:Ex wr w')(hg:w.grownBy w' (V 8).ownBlock)(hu:w'.ownsRow wr.heap.size 3 1 u (sl ++ [(c:Int)]).length (Aj (sl ++ [(c:Int)]))):Em wr BP tv sv tl sl j c (Ay L 11 true) (Ay V 11 u) w' where
 ex:=hx
 v0:=h.v0
 v1:=h.v1
 v2:=fun _ b=>absurd (h5.symm.trans b) ae
 v3:=h.v3
 v4:=fun _ b=>absurd (h5.symm.trans b) ae
 v5:=fun a b=>(h.v5 a b).kept hg (h.v8 h8 aA).2
 v6:=h.v6
 v7:=h.v7
 v8:=fun _ b=>absurd b a8
 v9:=h.v9
 v10:=fun _ b=>absurd b a8
 v11:=fun _ _=>hu
 v12:=fun a=>absurd ((show L 12=true from a).symm.trans aD) ae
 v13:=fun a b=>by
  obtain⟨B,h1,h3,h4⟩:=h.v13 a b;refine⟨B,h1,h3,?_⟩;have aB:B<w.heap.size:=(Array.getElem?_eq_some_iff.1 h4).1;rw[hg.block B aB (fun e=>J6 (h.v8 h8 aA).1 h4 ae B e.symm rfl)];exact h4
 v14:=fun a=>absurd ((show L 14=true from a).symm.trans aC) ae
theorem Em.set14(h:Em wr BP tv sv tl sl j c L V w)(h5:L 5=true)(aA:L 11=true)(h14:L 14=false)(h2:L 2=true){qb:Nat}(hq:V 13= .pointer (some (qb,0)))(hQ:Yu wr w' qb (V 5) (V 11) (tl ++ [(j:Int)]) (sl ++ [(c:Int)])):Em wr BP tv sv tl sl j c (Ay L 14 true) (Ay V 14 u) w' where
 ex:=hQ.ex
 v0:=h.v0
 v1:=h.v1
 v2:=fun _ b=>absurd (h5.symm.trans b) ae
 v3:=h.v3
 v4:=fun _ b=>absurd (h5.symm.trans b) ae
 v5:=fun _ b=>absurd b a8
 v6:=h.v6
 v7:=h.v7
 v8:=fun _ b=>absurd (aA.symm.trans b) ae
 v9:=h.v9
 v10:=fun _ b=>absurd (aA.symm.trans b) ae
 v11:=fun _ b=>absurd b a8
 v12:=h.v12
 v13:=fun _ b=>absurd b a8
 v14:=fun _=>⟨qb,hq,hQ⟩
end
theorem zaa{P:Prop}(h:P:=by
 have b0:=hk.o.cell bF.o B0.o;have bL:=(HT.o.keep hk.o).1;have i1:(j:Int)<(n:Int):=by omega
 obtain⟨aY,HE,aC,HK⟩:=Of (DL wr tl tv j bL) he.o BF.o hk.o;clear he BF hk
 cases hc:tl.contains (j:Int) with
 | true=>
  rw[hc]at aY;have bR:=Aa (Wm (step:=step) (q:=q) (sl:=sl) (s:=s) HE.o hc);clear hc;go_wp2_with (go_at_call 132;refine aY.o.mono ?_;rintro e w4⟨rfl,rfl⟩)
  go_roundw
  case rel=>exact⟨j+1,by omega,by go_num,Aa (by rw[bR.o];exact HE.o),Aa (by rw[bR.o];exact aC.o),HK⟩
  case measure=>exact Ωm
 | false=>
  rw[hc]at aY;have bH:=Aa hc;obtain⟨s1,bA⟩:=nA ((Ek step q tl sl j s).1);rw[bA]at aC;have aK:=Aa bA;clear hc bA;go_wp2_with (go_at_call 132;refine aY.o.mono ?_;rintro e w4⟨rfl,rfl⟩)
  clear b0 bL
  go_loopw [8] (fun c' wr=>∃c:Nat,1<=c/\c<=q/\c'= .int .i64 c/\Hia ((Gb step tl sl j (c-1) s1).2=0)/\Hia (St (Gb step tl sl j (c-1) s1).1 wr)/\Hia (AR DM w1 wr)) (fun c' _=>q-(intOf c').toNat)
  case atStart=>exact⟨1,by omega,by omega,rfl,Aa rfl,aC,HK⟩
  case round=>
   clear aC HK;obtain⟨c,cA,hcq,rfl,he,BF,hk⟩:=hrel;have bV:=Aa he.o;have aC:=Aa BF.o;have HK:=Aa hk.o;obtain⟨c0,-,aP⟩:=HC.o _ _ BF.o;have aU:=Aa aP;clear he BF hk aP;by_cases aA:c<q
   .have b0:=HK.o.cell bF.o B0.o;have b1:=HK.o.cell bF.o B1.o;have i2:(c:Int)<(q:Int):=by omega
    have aN:=(HT.o.keep HK.o).1;have aO:=(cH.o.keep HK.o).1;have aW:=Aa (fun (w5:World) (h5:Ex wr w5)=>FY w5 tl tv (aN.ex h5) (by omega));have aV:=Aa (fun (w5:World) (h5:Ex wr w5)=>FY w5 sl sv (aO.ex h5) (by omega));have bJ:=Aa (fun (w5:World) (h5:Ex wr w5)=>(⟨h5.cell b0,h5.cell b1,h5⟩:w5.cell? (BP,0)=some tv/\w5.cell? (BP,1)=some sv/\Ex wr w5));clear aN aO;go_wp2_with (go_at_call 54;refine aU.o.mono ?_;rintro e w5⟨rfl,rfl⟩)
    go_upto_region 8 with fail
    go_cut [9] from 32 to 50 (fun s9 wx=>∃qb aL aM,s9= .pointer (some ⟨qb,0,none⟩)/\Hia (Yu wr wx qb aL aM (tl ++ [(j:Int)]) (sl ++ [(c:Int)])))
    case first=>
     have X0:=Aa (Ex.refl wr).drew;have bP:=Aa bW;have bQ:=Aa bY;clear c0;refine CD (Em wr BP tv sv tl sl j c) (by kernel_rfl) (by kernel_rfl) ?_ ?_ ?_
     .exact⟨X0.o,fun h=>(by cases h),fun h=>(by cases h),fun h=>(by cases h),fun h=>(by cases h),fun h=>(by cases h),fun h=>(by cases h),fun h=>(by cases h),fun h=>(by cases h),fun h=>(by cases h),fun h=>(by cases h),fun h=>(by cases h),fun h=>(by cases h),fun h=>(by cases h),fun h=>(by cases h),fun h=>(by cases h)⟩
     .refine⟨fun L V a w hf hj hi hd aA K hK=>?_,fun L V a w hf hj hi hd aA K hK=>?_,fun L V a w hf hj hi hd aA K hK=>?_,fun L V a w hf hj hi hd aA K hK=>?_,fun L V a w hf hj hi hd aA K hK=>?_,fun L V a w hf hj hi hd aA K hK=>?_,fun L V a w hf hj hi hd aA K hK=>?_,fun L V a w hf hj hi hd aA K hK=>?_,fun L V a w hf hj hi hd aA K hK=>?_,fun L V a w hf hj hi hd aA K hK=>?_,fun L V a w hf hj hi hd aA K hK=>?_,fun L V a w hf hj hi hd aA K hK=>?_,fun L V a w hf hj hi hd aA K hK=>?_,fun L V a w hf hj hi hd aA K hK=>?_,fun L V a w hf hj hi hd aA K hK=>?_,trivial⟩
      .have e:a.tmps[4]?=some (.pointer (some (BP,0))):=hf.out_ 4 (by kernel_rfl);clear hf aA hd;go_simp;exact hK _ _ (hj.set0 rfl)
      .have d0:L 0=true:=hd ⟨0,.data⟩ (by simp) rfl;have e:=hf.in_ 0 32 d0 rfl rfl;rw[hj.v0 d0]at e;have c0:=hj.ex.cell b0;clear hf aA hd;go_simp;exact hK _ _ (hj.set1 rfl)
      .have d1:L 1=true:=hd ⟨1,.data⟩ (by simp) rfl;have e:=hf.in_ 1 33 d1 rfl rfl;rw[hj.v1 d1]at e;have hc:=Aa (aW.o w hj.ex);clear hf aA hd;go_simp;refine hc.o.mono ?_;rintro e w'⟨v1,rfl,ho,hx⟩;refine hK _ _ ((hj.grow hx).set2 (Bj ho hj.ex.size) (fun B hB e=>?_));obtain⟨o,hb,hv,cD,aE⟩:=hB;obtain⟨B',h1,h2,h3⟩:=hj.v10 cD aE;have e2:B=B':=by
        have:=hv.symm.trans h1;injection this with this;injection this with this;injection this with this
       have h4:B'<w.heap.size:=(Array.getElem?_eq_some_iff.1 h2).1;have:=(ho.lt B e).1;omega
      .have e:a.tmps[7]?=some (.int .i64 j):=hf.out_ 7 (by kernel_rfl);clear hf aA hd;go_simp;exact hK _ _ (hj.set3 rfl)
      .have d3:L 3=true:=hd ⟨3,.data⟩ (by simp) rfl;have e:=hf.in_ 3 35 d3 rfl rfl;rw[hj.v3 d3]at e;clear hf aA hd;go_simp;exact hK _ _ ((hj.grow (AF w _)).set4 rfl (D4 rfl))
      .have d2:L 2=true:=hd ⟨2,.data⟩ (by simp) rfl;have d4:L 4=true:=hd ⟨4,.data⟩ (by simp) rfl;have e1:=A9 (hf.in_ 2 34 d2 rfl rfl);have e2:=A9 (hf.in_ 4 36 d4 rfl rfl);obtain⟨B,hv,hb⟩:=hj.v4 d4 hi;have aS:L 12=false:=Ax fun h=>absurd (hi.symm.trans (aA 12 _ h rfl ⟨5,.data⟩ (by simp) rfl)) (by decide);have h8:L 8=false:=Ax fun h=>absurd (hi.symm.trans (aA 8 _ h rfl ⟨5,.chain⟩ (by simp) rfl)) (by decide);have aE:L 11=false:=Ax fun h=>absurd (h8.symm.trans (aA 11 _ h rfl ⟨8,.data⟩ (by simp) rfl)) (by decide);have aF:L 14=false:=Ax fun h=>absurd (aS.symm.trans (aA 14 _ h rfl ⟨12,.data⟩ (by simp) rfl)) (by decide);rw[hv]at e2;have own:=hj.v2 d2 hi;refine BH _ _ 22 rfl wr.heap.size 3 (.int .i64 0) 1 8 Tryz.underlying22 Az rfl (by decide) (V 2) tl.length (Aj tl) e1 own _ 1 [.int .i64 (j:Int)] e2 (Kw hb) (by simp[Value.oneCell']) (by have:=bP.o;unfold maxLen;omega) (by have:=bP.o;omega) hj.ex.size ?_;intro v' w' aI hg ha;exact hK _ _ (hj.set5 d2 hi h8 aE aS aF (Ex.grown hj.ex own (Nat.le_refl _) hg) hg (Il aI))
      .have e:a.tmps[4]?=some (.pointer (some (BP,0))):=hf.out_ 4 (by kernel_rfl);clear hf aA hd;go_simp;exact hK _ _ (hj.set6 rfl)
      .have d0:L 6=true:=hd ⟨6,.data⟩ (by simp) rfl;have e:=hf.in_ 6 38 d0 rfl rfl;rw[hj.v6 d0]at e;have c0:=hj.ex.cell b1;clear hf aA hd;go_simp;exact hK _ _ (hj.set7 rfl)
      .have d1:L 7=true:=hd ⟨7,.data⟩ (by simp) rfl;have d5:L 5=true:=hd ⟨5,.chain⟩ (by simp) rfl;have aE:L 11=false:=Ax fun h=>absurd (hi.symm.trans (aA 11 _ h rfl ⟨8,.data⟩ (by simp) rfl)) (by decide);have aF:L 14=false:=Ax fun h=>absurd (aE.symm.trans (aA 14 _ h rfl ⟨11,.chain⟩ (by simp) rfl)) (by decide);have e:=hf.in_ 7 39 d1 rfl rfl;rw[hj.v7 d1]at e;have hc:=Aa (aV.o w hj.ex);have aZ:=hj.v5 d5 aF;clear hf aA hd;go_simp;refine hc.o.mono ?_;rintro e w'⟨v1,rfl,ho,hx⟩;refine hK _ _ ((hj.grow hx).set8 (Bj ho hj.ex.size) ?_)
       cases h5b:(V 5).ownBlock with
       | none=>exact .inl h5b
       | some B=>
        right;rw[h5b];intro e2;have h1:=(aZ.lt B h5b).2;have h2:=(ho.lt B e2.symm).1;omega
      .have e:a.tmps[8]?=some (.int .i64 c):=hf.out_ 8 (by kernel_rfl);clear hf aA hd;go_simp;exact hK _ _ (hj.set9 rfl)
      .have d3:L 9=true:=hd ⟨9,.data⟩ (by simp) rfl;have e:=hf.in_ 9 41 d3 rfl rfl;rw[hj.v9 d3]at e;clear hf aA hd;go_simp;exact hK _ _ ((hj.grow (AF w _)).set10 rfl (D4 rfl) (fun h2 h5 e2=>by have:=(hj.v2 h2 h5).lt _ e2;omega))
      .have d2:L 8=true:=hd ⟨8,.data⟩ (by simp) rfl;have d4:L 10=true:=hd ⟨10,.data⟩ (by simp) rfl;have d5:L 5=true:=aA 8 _ d2 rfl ⟨5,.chain⟩ (by simp) rfl;have e1:=A9 (hf.in_ 8 40 d2 rfl rfl);have e2:=A9 (hf.in_ 10 42 d4 rfl rfl);obtain⟨B,hv,hb,-⟩:=hj.v10 d4 hi;have aS:L 12=false:=Ax fun h=>absurd (hi.symm.trans (aA 12 _ h rfl ⟨11,.data⟩ (by simp) rfl)) (by decide);have aF:L 14=false:=Ax fun h=>absurd (aS.symm.trans (aA 14 _ h rfl ⟨12,.data⟩ (by simp) rfl)) (by decide);rw[hv]at e2;have own:=(hj.v8 d2 hi).1;refine BH _ _ 22 rfl wr.heap.size 3 (.int .i64 0) 1 8 Tryz.underlying22 Az rfl (by decide) (V 8) sl.length (Aj sl) e1 own _ 1 [.int .i64 (c:Int)] e2 (Kw hb) (by simp[Value.oneCell']) (by have:=bQ.o;unfold maxLen;omega) (by have:=bQ.o;omega) hj.ex.size ?_;intro v' w' aI hg ha;exact hK _ _ (hj.set11 d5 d2 hi aS aF (Ex.grown hj.ex own (Nat.le_refl _) hg) hg (Il aI))
      .have d5:L 5=true:=hd ⟨5,.data⟩ (by simp) rfl;have aT:L 11=true:=hd ⟨11,.data⟩ (by simp) rfl;have aF:L 14=false:=Ax fun h=>absurd (hi.symm.trans (aA 14 _ h rfl ⟨12,.data⟩ (by simp) rfl)) (by decide);have e1:=hf.in_ 5 37 d5 rfl rfl;have e2:=hf.in_ 11 43 aT rfl rfl;obtain⟨a5,c5,h5⟩:=Ad (hj.v5 d5 aF);obtain⟨cF,cE,aE⟩:=Ad (hj.v11 aT aF);rw[h5]at e1;rw[aE]at e2;clear hf aA hd;go_simp;exact hK _ _ (hj.set12 (by rw[h5,aE];simp))
      .have aF:L 14=false:=Ax fun h=>absurd (hi.symm.trans (aA 14 _ h rfl ⟨13,.data⟩ (by simp) rfl)) (by decide);clear hf aA hd;go_simp;exact hK _ _ ((hj.grow (AF w _)).set13 aF rfl hj.ex.size (D4 rfl))
      .have aX:L 12=true:=hd ⟨12,.data⟩ (by simp) rfl;have bO:L 13=true:=hd ⟨13,.data⟩ (by simp) rfl;have d5:L 5=true:=aA 12 _ aX rfl ⟨5,.data⟩ (by simp) rfl;have aT:L 11=true:=aA 12 _ aX rfl ⟨11,.data⟩ (by simp) rfl;have d2:L 2=true:=aA 5 _ d5 rfl ⟨2,.data⟩ (by simp) rfl;have e1:=hf.in_ 13 9 bO rfl rfl;have e2:=hf.in_ 12 44 aX rfl rfl;obtain⟨qb,bB,bZ,bN⟩:=hj.v13 bO hi;have o5:=hj.v5 d5 hi;have bK:=hj.v11 aT hi;have hQ:=Yu.of_set (by decide) o5 bK hj.ex bZ bN;obtain⟨a5,c5,h5⟩:=Ad o5;obtain⟨cF,cE,aE⟩:=Ad bK;rw[bB]at e1;rw[hj.v12 aX]at e2;have bC:=hj.set14 (u:=undef) d5 aT hi d2 bB hQ;obtain⟨q0,q1,qf0,qf1⟩:=M6 bN;rw[show(tl ++ [(j:Int)]).length=tl.length+1 from by simp]at h5;rw[show(sl ++ [(c:Int)]).length=sl.length+1 from by simp]at aE;rw[h5,aE]at e2 bC;have HF:=Aa bC;clear hf aA hd hQ bC;go_simp;exact hK undef _ HF.o
     .intro L V w aR hj;obtain⟨qb,cC,hQ⟩:=hj.v14 (aR 14 (by decide));have HQ:=Aa hQ;clear hj aR hQ;simp only[Cg,Act.put,List.setIfInBounds_toArray,List.set_cons_zero,List.set_cons_succ];go_wp2_with fail
      go_meet
      exact⟨qb,_,_,cC,HQ⟩
    case rest=>
     obtain⟨qb,aL,aM,rfl,hq⟩:=hcut;have q0:=hq.o.c0;have q1:=hq.o.c1;have cG:=Aa (HH.o.ex _ _ _ aC.o hq.o.ex);have bT:=Aa (HK.o.trans (HH.o.keeps aC.o hq.o.ex));have aB:=Aa (HS.o _ wc j c aL aM cG.o hjn bH.o cA aA (Da.fresh hq.o.t fun B hB=>HH.o.new aC.o hq.o.ex (hq.o.tb B hB)) (Da.fresh hq.o.s fun B hB=>HH.o.new aC.o hq.o.ex (hq.o.sb B hB)));have bI:=Aa (Wo (step:=step) (tl:=tl) (sl:=sl) (j:=j) (c:=c-1) bV.o);rw[show c-1+1=c from by omega]at bI;rw[<-bI.o]at aB;have aH:=Aa (fun (h:(Gb step tl sl j c s1).2≠0)=>by
      have:=Tf (step:=step) (q:=q) (tl:=tl) (sl:=sl) (s:=s) (n:=n) (c:=c) HE.o bH.o hjn (by omega) (by rw[aK.o];exact h);rw[aK.o]at this;exact this)
     obtain⟨E,hE⟩:=nA ((Gb step tl sl j c s1).2);rw[hE]at aB aH;have bU:=Aa hE;clear hq aC HK aW aV bJ b0 b1 bI hE;by_cases h0:E=0
     .have cB:(E !=0)=false:=by simp[h0]
      have cI:=Aa h0;clear h0 aH;go_wp2_with (refine aB.o.mono ?_;rintro e w6⟨rfl,aD,aQ⟩;have aJ:=Aa aD;have bG:=Aa (bT.o.trans aQ);clear aD aQ)
      go_roundw
      case rel=>exact⟨c+1,by omega,by omega,by go_num,Aa (by rw[show c+1-1=c from by omega,bU.o,cI.o]),Aa (by rw[show c+1-1=c from by omega];exact aJ.o),bG⟩
      case measure=>exact Ωm
     .have cB:(E !=0)=true:=by simpa using h0
      have HR:=Aa (aH.o h0);clear h0 aH;go_wp2_with (refine aB.o.mono ?_;rintro e w6⟨rfl,aD,aQ⟩;have aJ:=Aa aD;have bG:=Aa (bT.o.trans aQ);clear aD aQ)
      go_ret;exact⟨by rw[HR.o,bU.o];rfl,by rw[HR.o];exact aJ.o,aG.o.trans bG.o⟩
   .obtain rfl:c=q:=by omega
    have bE:=Aa (NY (step:=step) (q:=c) (sl:=sl) (s:=s) HE.o bH.o);rw[aK.o]at bE;go_wp2_with (go_at_call 54;refine aU.o.mono ?_;rintro e w5⟨rfl,rfl⟩)
    go_roundw
    case rel=>exact⟨j+1,by omega,by go_num,Aa (by rw[bE.o];exact bV.o),Aa (by rw[bE.o];exact aC.o),HK⟩
    case measure=>exact Ωm):P:=h
theorem zat{P:Prop}(h:P:=by
 obtain rfl:j=n:=by omega
 have HE:=Aa he.o;have aC:=Aa BF.o;have HK:=Aa hk.o;clear he BF hk;go_wp2_with fail
 go_ret;exact⟨by rw[HE.o];rfl,aC.o,aG.o.trans HK.o⟩):P:=h
theorem zbg{P:Prop}(h:P:=by
 obtain⟨b0,b1,eb,bX⟩:=AQ w tv sv;obtain⟨BP,bD⟩:∃B,w.heap.size=B:=⟨_,rfl⟩;rw[bD]at b0 b1;have bF:=Aa (H.new hs eb (B:=BP) (by omega));have aG:=Aa (H.keeps hs eb);obtain⟨HT,cH,aK,HH,HC,HS,B0,B1⟩:=OK (ht.keep aG.o) (bM.keep aG.o) (H.ex _ _ _ hs eb) H hC hS b0 b1;obtain⟨-,c4,-⟩:=hC _ _ aK.o;clear hC hS H hs ht bM eb bX b0 b1;go_enter Tryz.func181,Tryz.ntmps181
 go_wp2_with fail
 try simp only[bD]
 clear bD;generalize w.alloc (.cells #[tv,sv] 71)=w1 at *;have bS:=Aa (AR.refl DM w1);clear c4
 go_loopw [16] (fun j' wr=>∃j:Nat,j<=n/\j'= .int .i64 j/\Hia ((Ek step q tl sl j s).2=0)/\Hia (St (Ek step q tl sl j s).1 wr)/\Hia (AR DM w1 wr)) (fun j' _=>n-(intOf j').toNat)
 case atStart=>exact⟨0,by omega,rfl,Aa rfl,aK,bS⟩
 case round=>
  clear aK bS;obtain⟨j,hj,rfl,he,BF,hk⟩:=hrel;by_cases hjn:j<n
  .exact zaa
  .exact zat):P:=h
theorem TY{σ:Type}{St:σ->World->Prop}{DM:World->Nat->Prop}(H:VO St DM)(step:σ->List Int->List Int->σ × Int)(w:World)(A b n q:Nat)(bB:1<=q)(hq:q<=256)(hn:n<=64)(p0 p1:Value)(tl sl:List Int)(tv sv:Value)
  (hC:∀s w1,St s w1->w1.cell? (A,0)=some (.pointer (some (b,0)))/\w1.cell? (A,4)=some (.int .i64 n)/\Calls Tryz.prog 54 #[(b,0)] w1 fun r w'=>r= .returned (.int .i64 (q:Int))/\w1=w')
  (hS:∀s w1 (j c:Nat) aL aM,St s w1->j<n->tl.contains (j:Int)=false->1<=c->c<q->Da DM w1 aL (tl ++ [(j:Int)])->Da DM w1 aM (sl ++ [(c:Int)])->Calls Tryz.prog 193 #[.agg #[aL,aM],p0,p1] w1 fun r w'=>r= .returned (.int .i64 (step s (tl ++ [(j:Int)]) (sl ++ [(c:Int)])).2)/\St (step s (tl ++ [(j:Int)]) (sl ++ [(c:Int)])).1 w'/\AR DM w1 w')
  (bW:tl.length<=64) (bY:sl.length<=64) (s:σ) (hs:St s w) (ht:Da DM w tv tl) (bM:Da DM w sv sl):
  Calls Tryz.prog 181 #[(A,0),.agg #[tv,sv],.func (.func 193) #[] #[p0,p1]] w fun r w'=>r= .returned (.int .i64 (Ek step q tl sl n s).2)/\St (Ek step q tl sl n s).1 w'/\AR DM w w':=by
 exact zbg
theorem ext_fol{σ:Type}{St:σ->World->Prop}{DM:World->Nat->Prop}(H:VO St DM)(step:σ->List Int->List Int->σ × Int)(w:World)(A b n q:Nat)(bB:1<=q)(hq:q<=256)(hn:n<=64)(p0 p1 p2 p3:Value)(tl sl:List Int)(tv sv:Value)
  (hC:∀s w1,St s w1->w1.cell? (A,0)=some (.pointer (some (b,0)))/\w1.cell? (A,4)=some (.int .i64 n)/\Calls Tryz.prog 54 #[(b,0)] w1 fun r w'=>r= .returned (.int .i64 (q:Int))/\w1=w')
  (hS:∀s w1 (j c:Nat) aL aM,St s w1->j<n->tl.contains (j:Int)=false->1<=c->c<q->Da DM w1 aL (tl ++ [(j:Int)])->Da DM w1 aM (sl ++ [(c:Int)])->Calls Tryz.prog 180 #[.agg #[aL,aM],p0,p1,p2,p3] w1 fun r w'=>r= .returned (.int .i64 (step s (tl ++ [(j:Int)]) (sl ++ [(c:Int)])).2)/\St (step s (tl ++ [(j:Int)]) (sl ++ [(c:Int)])).1 w'/\AR DM w1 w')
  (bW:tl.length<=64) (bY:sl.length<=64) (s:σ) (hs:St s w) (ht:Da DM w tv tl) (bM:Da DM w sv sl):
  Calls Tryz.prog 181 #[(A,0),.agg #[tv,sv],.func (.func 180) #[] #[p0,p1,p2,p3]] w fun r w'=>r= .returned (.int .i64 (Ek step q tl sl n s).2)/\St (Ek step q tl sl n s).1 w'/\AR DM w w':=by
 exact zbg
end Go.Proofs.YtehieobniamagaaGreat
