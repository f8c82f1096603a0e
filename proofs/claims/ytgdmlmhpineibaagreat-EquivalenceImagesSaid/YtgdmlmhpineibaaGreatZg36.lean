/- Walk of the pair's extensions, for both closures (printed by gen_ext.py). -/
import Derived.Deep.CutRange
import Derived.Test.YtgdmlmhpineibaaGreatZg20
import Derived.Test.YtgdmlmhpineibaaGreatZg35
namespace Go.Proofs.YtgdmlmhpineibaaGreat
set_option linter.unusedVariables false
set_option linter.unusedSimpArgs false
set_option maxRecDepth 100000
set_option maxHeartbeats 16000000
open Go.RowKit
theorem own_typ {w:World} {base:Nat} {e t:TypeId} {n:Nat} {v:Value} {xs:List Value} {g:Nat} {cs:Array Value} (h:w.ownsRow base e 1 v n xs) (hg:w.heap[g]?=some (.cells cs t)) (he:e≠t):∀B,v.ownBlock=some B→B≠g:=by
 intro B hB e0;rcases h.2 with ⟨h1,h2⟩ | ⟨g',cap,cur,h1,h2,h3,_⟩
 ·rw [h1] at hB;cases hB
 ·rw [h1] at hB;injection hB with hB;have hB:g'=B:=hB;subst hB e0;rw [hg] at h3;injection h3 with h3;injection h3 with _ h3;exact he h3.symm
theorem ints_snoc (l:List Int) (x:Int):ints l ++ [Value.int .i64 x]=ints (l ++ [x]):=by unfold ints;simp
theorem own_snoc {w:World} {base:Nat} {v:Value} {l:List Int} {x:Int} (h:w.ownsRow base 3 1 v (l.length + 1) (ints l ++ [Value.int .i64 x])):w.ownsRow base 3 1 v (l ++ [x]).length (ints (l ++ [x])):=by
 rw [←ints_snoc,List.length_append];exact h
structure QBx (wr wx:World) (qb:Nat) (tv sv:Value) (tl sl:List Int):Prop where
 c0:wx.cell? ⟨qb,0,none⟩=some tv
 c1:wx.cell? ⟨qb,1,none⟩=some sv
 t:ISl wx tv tl
 s:ISl wx sv sl
 tb:∀B,tv.ownBlock=some B→wr.heap.size≤B
 sb:∀B,sv.ownBlock=some B→wr.heap.size≤B
 ex:Ex wr wx
theorem QBx.of_set {wr wB:World} {qb:Nat} {tv sv:Value} {tl sl:List Int} {t:TypeId} (ht:3≠t) (o1:wB.ownsRow wr.heap.size 3 1 tv tl.length (ints tl)) (o2:wB.ownsRow wr.heap.size 3 1 sv sl.length (ints sl)) (hx:Ex wr wB) (hq:wr.heap.size≤qb) (hb:wB.heap[qb]?=some (.cells #[.slice none 0 0,.slice none 0 0] t)):
  QBx wr ((wB.setCell ⟨qb,0,none⟩ tv).setCell ⟨qb,1,none⟩ sv) qb tv sv tl sl:=by
 have hc:∀i,i < 2→∃v,wB.cell? ⟨qb,i,none⟩=some v:=fun i hi=> by
  unfold World.cell?;rw [hb];rcases i with _ | _ | i
  ·exact ⟨_,rfl⟩
  ·exact ⟨_,rfl⟩
  ·omega
 have n1:=own_typ o1 hb ht;have n2:=own_typ o2 hb ht;have s1:((wB.setCell ⟨qb,0,none⟩ tv).setCell ⟨qb,1,none⟩ sv).ownsRow wr.heap.size 3 1 tv tl.length (ints tl):=ownsRow_setCell_ne (a:=⟨qb,1,none⟩) (ownsRow_setCell_ne (a:=⟨qb,0,none⟩) o1 (fun e=> n1 qb e rfl) _) (fun e=> n1 qb e rfl) _;have s2:((wB.setCell ⟨qb,0,none⟩ tv).setCell ⟨qb,1,none⟩ sv).ownsRow wr.heap.size 3 1 sv sl.length (ints sl):=ownsRow_setCell_ne (a:=⟨qb,1,none⟩) (ownsRow_setCell_ne (a:=⟨qb,0,none⟩) o2 (fun e=> n2 qb e rfl) _) (fun e=> n2 qb e rfl) _;obtain ⟨u0,h0⟩:=hc 0 (by omega);obtain ⟨u1,h1⟩:=hc 1 (by omega);refine ⟨?_,World.cell?_setCell_same _ _ _ (by rw [cell_set_off (by decide)];exact h1),Sl.own s1,Sl.own s2,fun B h=> (o1.lt B h).1,fun B h=> (o2.lt B h).1,(hx.setCell (p:=⟨qb,0,none⟩) hq _).setCell (p:=⟨qb,1,none⟩) hq _⟩;rw [cell_set_off (by decide)];exact World.cell?_setCell_same _ _ _ h0
theorem heap_ex {w w':World} {B:Nat} {o:Obj} (h:Ex w w') (hb:w.heap[B]?=some o):w'.heap[B]?=some o:=by
 have hlt:B < w.heap.size:=(Array.getElem?_eq_some_iff.1 hb).1;rw [h.block B hlt];exact hb
theorem heap_at {w:World} {B:Nat} {o:Obj} (hb:w.heap.size=B):(w.alloc o).heap[B]?=some o:=by
 subst hb;show (w.heap.push o)[w.heap.size]?=some o
 exact Array.getElem?_push_size
theorem qbx_cells {w:World} {B:Nat} {u v:Value} {t:TypeId} (h:w.heap[B]?=some (.cells #[u,v] t)):w.cell? ⟨B,0,none⟩=some u∧w.cell? ⟨B,1,none⟩=some v∧w.frozen? ⟨B,0,none⟩=false∧w.frozen? ⟨B,1,none⟩=false:=by
 refine ⟨?_,?_,?_,?_⟩
 ·unfold World.cell?;simp [h]
 ·unfold World.cell?;simp [h]
 ·unfold World.frozen?;simp [h]
 ·unfold World.frozen?;simp [h]
theorem sl_lit {w:World} {B:Nat} {x:Value} {t:TypeId} (h:w.heap[B]?=some (.cells #[x] t)):Sl w (.slice (some ⟨B,0,none⟩) 1 1) 1 1 [x]:=
 ⟨rfl,some ⟨B,0,none⟩,1,rfl,Nat.le_refl _,by unfold maxLen;omega,fun _=> ⟨B,0,rfl,fun j u hu=> by
  rcases j with _ | j
  ·simp at hu;subst hu;unfold World.cell?;simp [h]
  ·simp at hu⟩⟩
theorem QBx.later {wr w w':World} {qb:Nat} {tv sv:Value} {tl sl:List Int} (h:QBx wr w qb tv sv tl sl) (hx:Ex w w'):QBx wr w' qb tv sv tl sl:=
 ⟨hx.cell h.c0,hx.cell h.c1,h.t.ex hx,h.s.ex hx,h.tb,h.sb,h.ex.trans hx⟩
structure ExJ (wr:World) (BP:Nat) (tv sv:Value) (tl sl:List Int) (j c:Nat) (L:Nat→Bool) (V:Nat→Value) (w:World):Prop where
 ex:Ex wr w
 v0:L 0=true→V 0= .pointer (some ⟨BP,0,none⟩)
 v1:L 1=true→V 1=tv
 v2:L 2=true→L 5=false→w.ownsRow wr.heap.size 3 1 (V 2) tl.length (ints tl)
 v3:L 3=true→V 3= .int .i64 j
 v4:L 4=true→L 5=false→∃B,V 4= .slice (some ⟨B,0,none⟩) 1 1∧w.heap[B]?=some (.cells #[.int .i64 (j:Int)] 3)
 v5:L 5=true→L 14=false→w.ownsRow wr.heap.size 3 1 (V 5) (tl ++ [(j:Int)]).length (ints (tl ++ [(j:Int)]))
 v6:L 6=true→V 6= .pointer (some ⟨BP,1,none⟩)
 v7:L 7=true→V 7=sv
 v8:L 8=true→L 11=false→w.ownsRow wr.heap.size 3 1 (V 8) sl.length (ints sl)∧Aprt (V 5) (V 8)
 v9:L 9=true→V 9= .int .i64 c
 v10:L 10=true→L 11=false→∃B,V 10= .slice (some ⟨B,0,none⟩) 1 1∧w.heap[B]?=some (.cells #[.int .i64 (c:Int)] 3)∧(L 2=true→L 5=false→(V 2).ownBlock≠some B)
 v11:L 11=true→L 14=false→w.ownsRow wr.heap.size 3 1 (V 11) (sl ++ [(c:Int)]).length (ints (sl ++ [(c:Int)]))
 v12:L 12=true→V 12= .agg #[V 5,V 11]
 v13:L 13=true→L 14=false→∃qb,V 13= .pointer (some ⟨qb,0,none⟩)∧wr.heap.size≤qb∧w.heap[qb]?=some (.cells #[.slice none 0 0,.slice none 0 0] 49)
 v14:L 14=true→∃qb,V 13= .pointer (some ⟨qb,0,none⟩)∧QBx wr w qb (V 5) (V 11) (tl ++ [(j:Int)]) (sl ++ [(c:Int)])
section
variable {wr w w':World} {BP:Nat} {tv sv u:Value} {tl sl:List Int} {j c:Nat} {L:Nat→Bool} {V:Nat→Value}
theorem ExJ.grow (h:ExJ wr BP tv sv tl sl j c L V w) (hx:Ex w w'):ExJ wr BP tv sv tl sl j c L V w' where
 ex:=h.ex.trans hx
 v0:=h.v0
 v1:=h.v1
 v2:=fun a b=> ownsRow_ex (h.v2 a b) hx
 v3:=h.v3
 v4:=fun a b=> by obtain ⟨B,h1,h2⟩:=h.v4 a b;exact ⟨B,h1,heap_ex hx h2⟩
 v5:=fun a b=> ownsRow_ex (h.v5 a b) hx
 v6:=h.v6
 v7:=h.v7
 v8:=fun a b=> ⟨ownsRow_ex (h.v8 a b).1 hx,(h.v8 a b).2⟩
 v9:=h.v9
 v10:=fun a b=> by obtain ⟨B,h1,h2,h3⟩:=h.v10 a b;exact ⟨B,h1,heap_ex hx h2,h3⟩
 v11:=fun a b=> ownsRow_ex (h.v11 a b) hx
 v12:=h.v12
 v13:=fun a b=> by obtain ⟨B,h1,h2,h3⟩:=h.v13 a b;exact ⟨B,h1,h2,heap_ex hx h3⟩
 v14:=fun a=> by obtain ⟨B,h1,h2⟩:=h.v14 a;exact ⟨B,h1,h2.later hx⟩
theorem ExJ.set0 (h:ExJ wr BP tv sv tl sl j c L V w) (hu:u= .pointer (some ⟨BP,0,none⟩)):ExJ wr BP tv sv tl sl j c (upd L 0 true) (upd V 0 u) w:=
 ⟨h.ex,fun _=> hu,h.v1,h.v2,h.v3,h.v4,h.v5,h.v6,h.v7,h.v8,h.v9,h.v10,h.v11,h.v12,h.v13,h.v14⟩
theorem ExJ.set1 (h:ExJ wr BP tv sv tl sl j c L V w) (hu:u=tv):ExJ wr BP tv sv tl sl j c (upd L 1 true) (upd V 1 u) w:=
 ⟨h.ex,h.v0,fun _=> hu,h.v2,h.v3,h.v4,h.v5,h.v6,h.v7,h.v8,h.v9,h.v10,h.v11,h.v12,h.v13,h.v14⟩
theorem ExJ.set3 (h:ExJ wr BP tv sv tl sl j c L V w) (hu:u= .int .i64 j):ExJ wr BP tv sv tl sl j c (upd L 3 true) (upd V 3 u) w:=
 ⟨h.ex,h.v0,h.v1,h.v2,fun _=> hu,h.v4,h.v5,h.v6,h.v7,h.v8,h.v9,h.v10,h.v11,h.v12,h.v13,h.v14⟩
theorem ExJ.set6 (h:ExJ wr BP tv sv tl sl j c L V w) (hu:u= .pointer (some ⟨BP,1,none⟩)):ExJ wr BP tv sv tl sl j c (upd L 6 true) (upd V 6 u) w:=
 ⟨h.ex,h.v0,h.v1,h.v2,h.v3,h.v4,h.v5,fun _=> hu,h.v7,h.v8,h.v9,h.v10,h.v11,h.v12,h.v13,h.v14⟩
theorem ExJ.set7 (h:ExJ wr BP tv sv tl sl j c L V w) (hu:u=sv):ExJ wr BP tv sv tl sl j c (upd L 7 true) (upd V 7 u) w:=
 ⟨h.ex,h.v0,h.v1,h.v2,h.v3,h.v4,h.v5,h.v6,fun _=> hu,h.v8,h.v9,h.v10,h.v11,h.v12,h.v13,h.v14⟩
theorem ExJ.set9 (h:ExJ wr BP tv sv tl sl j c L V w) (hu:u= .int .i64 c):ExJ wr BP tv sv tl sl j c (upd L 9 true) (upd V 9 u) w:=
 ⟨h.ex,h.v0,h.v1,h.v2,h.v3,h.v4,h.v5,h.v6,h.v7,h.v8,fun _=> hu,h.v10,h.v11,h.v12,h.v13,h.v14⟩
theorem ExJ.set2 (h:ExJ wr BP tv sv tl sl j c L V w) (hu:w.ownsRow wr.heap.size 3 1 u tl.length (ints tl)) (hn:∀B,(∃o,w.heap[B]?=some o∧V 10= .slice (some ⟨B,0,none⟩) 1 1∧L 10=true∧L 11=false)→u.ownBlock≠some B):ExJ wr BP tv sv tl sl j c (upd L 2 true) (upd V 2 u) w:=
 ⟨h.ex,h.v0,h.v1,fun _ _=> hu,h.v3,h.v4,h.v5,h.v6,h.v7,h.v8,h.v9,fun a b=> by obtain ⟨B,h1,h2,h3⟩:=h.v10 a b;exact ⟨B,h1,h2,fun _ _=> hn B ⟨_,h2,h1,a,b⟩⟩,h.v11,h.v12,h.v13,h.v14⟩
theorem ExJ.set4 (h:ExJ wr BP tv sv tl sl j c L V w) {B:Nat} (hu:u= .slice (some ⟨B,0,none⟩) 1 1) (hb:w.heap[B]?=some (.cells #[.int .i64 (j:Int)] 3)):ExJ wr BP tv sv tl sl j c (upd L 4 true) (upd V 4 u) w:=
 ⟨h.ex,h.v0,h.v1,h.v2,h.v3,fun _ _=> ⟨B,hu,hb⟩,h.v5,h.v6,h.v7,h.v8,h.v9,h.v10,h.v11,h.v12,h.v13,h.v14⟩
theorem ExJ.set8 (h:ExJ wr BP tv sv tl sl j c L V w) (hu:w.ownsRow wr.heap.size 3 1 u sl.length (ints sl)) (ha:Aprt (V 5) u):ExJ wr BP tv sv tl sl j c (upd L 8 true) (upd V 8 u) w:=
 ⟨h.ex,h.v0,h.v1,h.v2,h.v3,h.v4,h.v5,h.v6,h.v7,fun _ _=> ⟨hu,ha⟩,h.v9,h.v10,h.v11,h.v12,h.v13,h.v14⟩
theorem ExJ.set10 (h:ExJ wr BP tv sv tl sl j c L V w) {B:Nat} (hu:u= .slice (some ⟨B,0,none⟩) 1 1) (hb:w.heap[B]?=some (.cells #[.int .i64 (c:Int)] 3)) (hn:L 2=true→L 5=false→(V 2).ownBlock≠some B):ExJ wr BP tv sv tl sl j c (upd L 10 true) (upd V 10 u) w:=
 ⟨h.ex,h.v0,h.v1,h.v2,h.v3,h.v4,h.v5,h.v6,h.v7,h.v8,h.v9,fun _ _=> ⟨B,hu,hb,hn⟩,h.v11,h.v12,h.v13,h.v14⟩
theorem ExJ.set12 (h:ExJ wr BP tv sv tl sl j c L V w) (hu:u= .agg #[V 5,V 11]):ExJ wr BP tv sv tl sl j c (upd L 12 true) (upd V 12 u) w:=
 ⟨h.ex,h.v0,h.v1,h.v2,h.v3,h.v4,h.v5,h.v6,h.v7,h.v8,h.v9,h.v10,h.v11,fun _=> hu,h.v13,h.v14⟩
theorem ExJ.set13 (h:ExJ wr BP tv sv tl sl j c L V w) (h14:L 14=false) {qb:Nat} (hu:u= .pointer (some ⟨qb,0,none⟩)) (hq:wr.heap.size≤qb) (hb:w.heap[qb]?=some (.cells #[.slice none 0 0,.slice none 0 0] 49)):ExJ wr BP tv sv tl sl j c (upd L 13 true) (upd V 13 u) w:=
 ⟨h.ex,h.v0,h.v1,h.v2,h.v3,h.v4,h.v5,h.v6,h.v7,h.v8,h.v9,h.v10,h.v11,h.v12,fun _ _=> ⟨qb,hu,hq,hb⟩,fun a=> absurd (a.symm.trans h14) (by decide)⟩
theorem ExJ.set5 (h:ExJ wr BP tv sv tl sl j c L V w) (h2:L 2=true) (h5:L 5=false) (h8:L 8=false) (h11:L 11=false) (h12:L 12=false) (h14:L 14=false) (hx:Ex wr w') (hg:w.grownBy w' (V 2).ownBlock) (hu:w'.ownsRow wr.heap.size 3 1 u (tl ++ [(j:Int)]).length (ints (tl ++ [(j:Int)]))):ExJ wr BP tv sv tl sl j c (upd L 5 true) (upd V 5 u) w' where
 ex:=hx
 v0:=h.v0
 v1:=h.v1
 v2:=fun _ b=> absurd b (by show ¬(true=false);decide)
 v3:=h.v3
 v4:=fun _ b=> absurd b (by show ¬(true=false);decide)
 v5:=fun _ _=> hu
 v6:=h.v6
 v7:=h.v7
 v8:=fun a=> absurd ((show L 8=true from a).symm.trans h8) (by decide)
 v9:=h.v9
 v10:=fun a b=> by
  obtain ⟨B,h1,h3,h4⟩:=h.v10 a b;refine ⟨B,h1,?_,fun _ b=> absurd b (by show ¬(true=false);decide)⟩;have hlt:B < w.heap.size:=(Array.getElem?_eq_some_iff.1 h3).1;rw [hg.block B hlt (fun e=> h4 h2 h5 e.symm)];exact h3
 v11:=fun a=> absurd ((show L 11=true from a).symm.trans h11) (by decide)
 v12:=fun a=> absurd ((show L 12=true from a).symm.trans h12) (by decide)
 v13:=fun a b=> by
  obtain ⟨B,h1,h3,h4⟩:=h.v13 a b;refine ⟨B,h1,h3,?_⟩;have hlt:B < w.heap.size:=(Array.getElem?_eq_some_iff.1 h4).1;rw [hg.block B hlt (fun e=> own_typ (h.v2 h2 h5) h4 (by decide) B e.symm rfl)];exact h4
 v14:=fun a=> absurd ((show L 14=true from a).symm.trans h14) (by decide)
theorem ExJ.set11 (h:ExJ wr BP tv sv tl sl j c L V w) (h5:L 5=true) (h8:L 8=true) (h11:L 11=false) (h12:L 12=false) (h14:L 14=false) (hx:Ex wr w') (hg:w.grownBy w' (V 8).ownBlock) (hu:w'.ownsRow wr.heap.size 3 1 u (sl ++ [(c:Int)]).length (ints (sl ++ [(c:Int)]))):ExJ wr BP tv sv tl sl j c (upd L 11 true) (upd V 11 u) w' where
 ex:=hx
 v0:=h.v0
 v1:=h.v1
 v2:=fun _ b=> absurd (h5.symm.trans b) (by decide)
 v3:=h.v3
 v4:=fun _ b=> absurd (h5.symm.trans b) (by decide)
 v5:=fun a b=> (h.v5 a b).kept hg (h.v8 h8 h11).2
 v6:=h.v6
 v7:=h.v7
 v8:=fun _ b=> absurd b (by show ¬(true=false);decide)
 v9:=h.v9
 v10:=fun _ b=> absurd b (by show ¬(true=false);decide)
 v11:=fun _ _=> hu
 v12:=fun a=> absurd ((show L 12=true from a).symm.trans h12) (by decide)
 v13:=fun a b=> by
  obtain ⟨B,h1,h3,h4⟩:=h.v13 a b;refine ⟨B,h1,h3,?_⟩;have hlt:B < w.heap.size:=(Array.getElem?_eq_some_iff.1 h4).1;rw [hg.block B hlt (fun e=> own_typ (h.v8 h8 h11).1 h4 (by decide) B e.symm rfl)];exact h4
 v14:=fun a=> absurd ((show L 14=true from a).symm.trans h14) (by decide)
theorem ExJ.set14 (h:ExJ wr BP tv sv tl sl j c L V w) (h5:L 5=true) (h11:L 11=true) (h14:L 14=false) (h2:L 2=true) {qb:Nat} (hq:V 13= .pointer (some ⟨qb,0,none⟩)) (hQ:QBx wr w' qb (V 5) (V 11) (tl ++ [(j:Int)]) (sl ++ [(c:Int)])):ExJ wr BP tv sv tl sl j c (upd L 14 true) (upd V 14 u) w' where
 ex:=hQ.ex
 v0:=h.v0
 v1:=h.v1
 v2:=fun _ b=> absurd (h5.symm.trans b) (by decide)
 v3:=h.v3
 v4:=fun _ b=> absurd (h5.symm.trans b) (by decide)
 v5:=fun _ b=> absurd b (by show ¬(true=false);decide)
 v6:=h.v6
 v7:=h.v7
 v8:=fun _ b=> absurd (h11.symm.trans b) (by decide)
 v9:=h.v9
 v10:=fun _ b=> absurd (h11.symm.trans b) (by decide)
 v11:=fun _ b=> absurd b (by show ¬(true=false);decide)
 v12:=h.v12
 v13:=fun _ b=> absurd b (by show ¬(true=false);decide)
 v14:=fun _=> ⟨qb,hq,hQ⟩
end
theorem ext_sea {σ:Type} {St:σ→World→Prop} {DM:World→Nat→Prop} (H:Stt St DM) (step:σ→List Int→List Int→σ × Int) (w:World) (A b n q:Nat) (hq1:1≤q) (hq:q≤256) (hn:n≤64) (p0 p1:Value) (tl sl:List Int) (tv sv:Value)
  (hC:∀s w1,St s w1→w1.cell? ⟨A,0,none⟩=some (.pointer (some ⟨b,0,none⟩))∧w1.cell? ⟨A,4,none⟩=some (.int .i64 n)∧Calls Tryz.prog 110 #[.pointer (some ⟨b,0,none⟩)] w1 fun r w'=> r= .returned (.int .i64 (q:Int))∧w1=w')
  (hS:∀s w1 (j c:Nat) tv' sv',St s w1→j < n→tl.contains (j:Int)=false→1≤c→c < q→PrS DM w1 tv' (tl ++ [(j:Int)])→PrS DM w1 sv' (sl ++ [(c:Int)])→Calls Tryz.prog 104 #[.agg #[tv',sv'],p0,p1] w1 fun r w'=> r= .returned (.int .i64 (step s (tl ++ [(j:Int)]) (sl ++ [(c:Int)])).2)∧St (step s (tl ++ [(j:Int)]) (sl ++ [(c:Int)])).1 w'∧Keeps DM w1 w')
  (htl:tl.length≤64) (hsl:sl.length≤64) (s:σ) (hs:St s w) (ht:PrS DM w tv tl) (hsv:PrS DM w sv sl):
  Calls Tryz.prog 71 #[.pointer (some ⟨A,0,none⟩),.agg #[tv,sv],.func (.func 104) #[] #[p0,p1]] w fun r w'=> r= .returned (.int .i64 (rnJ step q tl sl n s).2)∧St (rnJ step q tl sl n s).1 w'∧Keeps DM w w':=by
 obtain ⟨b0,b1,eb,hsz⟩:=boxP_facts w tv sv;obtain ⟨BP,hBP⟩:∃B,w.heap.size=B:=⟨_,rfl⟩;rw [hBP] at b0 b1;have HNB:=hid_ (H.new hs eb (B:=BP) (by omega));have HK01:=hid_ (H.keeps hs eb);have HT:=hid_ (ht.keep HK01.out);have HSV:=hid_ (hsv.keep HK01.out);have HS1:=hid_ (H.ex _ _ _ hs eb);have HH:=hid_ H;have HC:=hid_ hC;have HS:=hid_ hS;have B0:=hid_ b0;have B1:=hid_ b1;obtain ⟨-,c4,-⟩:=hC _ _ HS1.out;clear hC hS H hs ht hsv eb hsz b0 b1;go_enter Tryz.func71,Tryz.ntmps71
 go_wp2_with fail
 try simp only [hBP]
 clear hBP;generalize w.alloc (.cells #[tv,sv] 49)=w1 at *;have HKR:=hid_ (Keeps.refl DM w1);clear c4
 go_loopw [16] (fun j' wr=> ∃j:Nat,j≤n∧j'= .int .i64 j∧Hid ((rnJ step q tl sl j s).2=0)∧Hid (St (rnJ step q tl sl j s).1 wr)∧Hid (Keeps DM w1 wr)) (fun j' _=> n - (intOf j').toNat)
 case atStart=> exact ⟨0,by omega,rfl,hid_ rfl,HS1,HKR⟩
 case round=>
  clear HS1 HKR;obtain ⟨j,hj,rfl,he,hst,hk⟩:=hrel;by_cases hjn:j < n
  ·have b0:=hk.out.cell HNB.out B0.out;have hto:=(HT.out.keep hk.out).1;have i1:(j:Int) < (n:Int):=by omega
   have HCT:=hid_ (Contains_any wr tl tv j hto);have HE:=hid_ he.out;have HST:=hid_ hst.out;have HK:=hid_ hk.out;clear he hst hk
   cases hc:tl.contains (j:Int) with
   | true=>
    rw [hc] at HCT;have HRI:=hid_ (rnJ_in (step:=step) (q:=q) (sl:=sl) (s:=s) HE.out hc);clear hc;go_wp2_with (go_at_call 109;refine HCT.out.mono ?_;rintro e w4 ⟨rfl,rfl⟩)
    go_roundw
    case rel=> exact ⟨j + 1,by omega,by go_num,hid_ (by rw [HRI.out];exact HE.out),hid_ (by rw [HRI.out];exact HST.out),HK⟩
    case measure=> simp [intOf];omega
   | false=>
    rw [hc] at HCT;have HCF:=hid_ hc;obtain ⟨s1,hs1⟩:∃s1,(rnJ step q tl sl j s).1=s1:=⟨_,rfl⟩;rw [hs1] at HST;have HS1:=hid_ hs1;clear hc hs1;go_wp2_with (go_at_call 109;refine HCT.out.mono ?_;rintro e w4 ⟨rfl,rfl⟩)
    clear b0 hto
    go_loopw [8] (fun c' wr=> ∃c:Nat,1≤c∧c≤q∧c'= .int .i64 c∧Hid ((rnA step tl sl j (c - 1) s1).2=0)∧Hid (St (rnA step tl sl j (c - 1) s1).1 wr)∧Hid (Keeps DM w1 wr)) (fun c' _=> q - (intOf c').toNat)
    case atStart=> exact ⟨1,by omega,by omega,rfl,hid_ rfl,HST,HK⟩
    case round=>
     clear HST HK;obtain ⟨c,hc1,hcq,rfl,he,hst,hk⟩:=hrel;have HE2:=hid_ he.out;have HST:=hid_ hst.out;have HK:=hid_ hk.out;obtain ⟨c0,-,hord⟩:=HC.out _ _ hst.out;have HORD:=hid_ hord;clear he hst hk hord;by_cases hcl:c < q
     ·have b0:=HK.out.cell HNB.out B0.out;have b1:=HK.out.cell HNB.out B1.out;have i2:(c:Int) < (q:Int):=by omega
      have htl2:=(HT.out.keep HK.out).1;have hsl2:=(HSV.out.keep HK.out).1;have HCT1:=hid_ (fun (w5:World) (h5:Ex wr w5)=> CloneO_any w5 tl tv (htl2.ex h5) (by omega));have HCT2:=hid_ (fun (w5:World) (h5:Ex wr w5)=> CloneO_any w5 sl sv (hsl2.ex h5) (by omega));have HALL:=hid_ (fun (w5:World) (h5:Ex wr w5)=> (⟨h5.cell b0,h5.cell b1,h5⟩:w5.cell? ⟨BP,0,none⟩=some tv∧w5.cell? ⟨BP,1,none⟩=some sv∧Ex wr w5));clear htl2 hsl2;go_wp2_with (go_at_call 110;refine HORD.out.mono ?_;rintro e w5 ⟨rfl,rfl⟩)
      go_upto_region 8 with fail
      go_cut [9] from 32 to 50 (fun s9 wx=> ∃qb tv' sv',s9= .pointer (some ⟨qb,0,none⟩)∧Hid (QBx wr wx qb tv' sv' (tl ++ [(j:Int)]) (sl ++ [(c:Int)])))
      case first=>
       have X0:=hid_ (Ex.refl wr).drew;have HTL:=hid_ htl;have HSL:=hid_ hsl;clear c0;refine wp_region_inv (ExJ wr BP tv sv tl sl j c) (by kernel_rfl) (by kernel_rfl) ?_ ?_ ?_
       ·exact ⟨X0.out,fun h=> (by cases h),fun h=> (by cases h),fun h=> (by cases h),fun h=> (by cases h),fun h=> (by cases h),fun h=> (by cases h),fun h=> (by cases h),fun h=> (by cases h),fun h=> (by cases h),fun h=> (by cases h),fun h=> (by cases h),fun h=> (by cases h),fun h=> (by cases h),fun h=> (by cases h),fun h=> (by cases h)⟩
       ·refine ⟨fun L V a w hf hj hi hd hcl K hK=> ?_,fun L V a w hf hj hi hd hcl K hK=> ?_,fun L V a w hf hj hi hd hcl K hK=> ?_,fun L V a w hf hj hi hd hcl K hK=> ?_,fun L V a w hf hj hi hd hcl K hK=> ?_,fun L V a w hf hj hi hd hcl K hK=> ?_,fun L V a w hf hj hi hd hcl K hK=> ?_,fun L V a w hf hj hi hd hcl K hK=> ?_,fun L V a w hf hj hi hd hcl K hK=> ?_,fun L V a w hf hj hi hd hcl K hK=> ?_,fun L V a w hf hj hi hd hcl K hK=> ?_,fun L V a w hf hj hi hd hcl K hK=> ?_,fun L V a w hf hj hi hd hcl K hK=> ?_,fun L V a w hf hj hi hd hcl K hK=> ?_,fun L V a w hf hj hi hd hcl K hK=> ?_,trivial⟩
        ·have e:a.tmps[4]?=some (.pointer (some ⟨BP,0,none⟩)):=hf.out_ 4 (by kernel_rfl);clear hf hcl hd;go_simp;exact hK _ _ (hj.set0 rfl)
        ·have d0:L 0=true:=hd ⟨0,.data⟩ (by simp) rfl;have e:=hf.in_ 0 32 d0 rfl rfl;rw [hj.v0 d0] at e;have c0:=hj.ex.cell b0;clear hf hcl hd;go_simp;exact hK _ _ (hj.set1 rfl)
        ·have d1:L 1=true:=hd ⟨1,.data⟩ (by simp) rfl;have e:=hf.in_ 1 33 d1 rfl rfl;rw [hj.v1 d1] at e;have hc:=hid_ (HCT1.out w hj.ex);clear hf hcl hd;go_simp;refine hc.out.mono ?_;rintro e w' ⟨v1,rfl,ho,hx⟩;refine hK _ _ ((hj.grow hx).set2 (ownsRow_mono ho hj.ex.size) (fun B hB e=> ?_));obtain ⟨o,hb,hv,h10,h11⟩:=hB;obtain ⟨B',h1,h2,h3⟩:=hj.v10 h10 h11;have e2:B=B':=by
          have:=hv.symm.trans h1;injection this with this;injection this with this;injection this with this
         have h4:B' < w.heap.size:=(Array.getElem?_eq_some_iff.1 h2).1;have:=(ho.lt B e).1;omega
        ·have e:a.tmps[7]?=some (.int .i64 j):=hf.out_ 7 (by kernel_rfl);clear hf hcl hd;go_simp;exact hK _ _ (hj.set3 rfl)
        ·have d3:L 3=true:=hd ⟨3,.data⟩ (by simp) rfl;have e:=hf.in_ 3 35 d3 rfl rfl;rw [hj.v3 d3] at e;clear hf hcl hd;go_simp;exact hK _ _ ((hj.grow (e_al w _)).set4 rfl (heap_at rfl))
        ·have d2:L 2=true:=hd ⟨2,.data⟩ (by simp) rfl;have d4:L 4=true:=hd ⟨4,.data⟩ (by simp) rfl;have e1:=eval_tmp (hf.in_ 2 34 d2 rfl rfl);have e2:=eval_tmp (hf.in_ 4 36 d4 rfl rfl);obtain ⟨B,hv,hb⟩:=hj.v4 d4 hi;have h12:L 12=false:=bool_no fun h=> absurd (hi.symm.trans (hcl 12 _ h rfl ⟨5,.data⟩ (by simp) rfl)) (by decide);have h8:L 8=false:=bool_no fun h=> absurd (hi.symm.trans (hcl 8 _ h rfl ⟨5,.chain⟩ (by simp) rfl)) (by decide);have h11:L 11=false:=bool_no fun h=> absurd (h8.symm.trans (hcl 11 _ h rfl ⟨8,.data⟩ (by simp) rfl)) (by decide);have h14:L 14=false:=bool_no fun h=> absurd (h12.symm.trans (hcl 14 _ h rfl ⟨12,.data⟩ (by simp) rfl)) (by decide);rw [hv] at e2;have own:=hj.v2 d2 hi;refine opwp_append _ _ 22 rfl wr.heap.size 3 (.int .i64 0) 1 8 Tryz.underlying22 infoInt rfl (by decide) (V 2) tl.length (ints tl) e1 own _ 1 [.int .i64 (j:Int)] e2 (sl_lit hb) (by simp [Value.oneCell']) (by have:=HTL.out;unfold maxLen;omega) (by have:=HTL.out;omega) hj.ex.size ?_;intro v' w' hown hg ha;exact hK _ _ (hj.set5 d2 hi h8 h11 h12 h14 (Ex.grown hj.ex own (Nat.le_refl _) hg) hg (own_snoc hown))
        ·have e:a.tmps[4]?=some (.pointer (some ⟨BP,0,none⟩)):=hf.out_ 4 (by kernel_rfl);clear hf hcl hd;go_simp;exact hK _ _ (hj.set6 rfl)
        ·have d0:L 6=true:=hd ⟨6,.data⟩ (by simp) rfl;have e:=hf.in_ 6 38 d0 rfl rfl;rw [hj.v6 d0] at e;have c0:=hj.ex.cell b1;clear hf hcl hd;go_simp;exact hK _ _ (hj.set7 rfl)
        ·have d1:L 7=true:=hd ⟨7,.data⟩ (by simp) rfl;have d5:L 5=true:=hd ⟨5,.chain⟩ (by simp) rfl;have h11:L 11=false:=bool_no fun h=> absurd (hi.symm.trans (hcl 11 _ h rfl ⟨8,.data⟩ (by simp) rfl)) (by decide);have h14:L 14=false:=bool_no fun h=> absurd (h11.symm.trans (hcl 14 _ h rfl ⟨11,.chain⟩ (by simp) rfl)) (by decide);have e:=hf.in_ 7 39 d1 rfl rfl;rw [hj.v7 d1] at e;have hc:=hid_ (HCT2.out w hj.ex);have own5:=hj.v5 d5 h14;clear hf hcl hd;go_simp;refine hc.out.mono ?_;rintro e w' ⟨v1,rfl,ho,hx⟩;refine hK _ _ ((hj.grow hx).set8 (ownsRow_mono ho hj.ex.size) ?_)
         cases h5b:(V 5).ownBlock with
         | none=> exact .inl h5b
         | some B=>
          right;rw [h5b];intro e2;have h1:=(own5.lt B h5b).2;have h2:=(ho.lt B e2.symm).1;omega
        ·have e:a.tmps[8]?=some (.int .i64 c):=hf.out_ 8 (by kernel_rfl);clear hf hcl hd;go_simp;exact hK _ _ (hj.set9 rfl)
        ·have d3:L 9=true:=hd ⟨9,.data⟩ (by simp) rfl;have e:=hf.in_ 9 41 d3 rfl rfl;rw [hj.v9 d3] at e;clear hf hcl hd;go_simp;exact hK _ _ ((hj.grow (e_al w _)).set10 rfl (heap_at rfl) (fun h2 h5 e2=> by have:=(hj.v2 h2 h5).lt _ e2;omega))
        ·have d2:L 8=true:=hd ⟨8,.data⟩ (by simp) rfl;have d4:L 10=true:=hd ⟨10,.data⟩ (by simp) rfl;have d5:L 5=true:=hcl 8 _ d2 rfl ⟨5,.chain⟩ (by simp) rfl;have e1:=eval_tmp (hf.in_ 8 40 d2 rfl rfl);have e2:=eval_tmp (hf.in_ 10 42 d4 rfl rfl);obtain ⟨B,hv,hb,-⟩:=hj.v10 d4 hi;have h12:L 12=false:=bool_no fun h=> absurd (hi.symm.trans (hcl 12 _ h rfl ⟨11,.data⟩ (by simp) rfl)) (by decide);have h14:L 14=false:=bool_no fun h=> absurd (h12.symm.trans (hcl 14 _ h rfl ⟨12,.data⟩ (by simp) rfl)) (by decide);rw [hv] at e2;have own:=(hj.v8 d2 hi).1;refine opwp_append _ _ 22 rfl wr.heap.size 3 (.int .i64 0) 1 8 Tryz.underlying22 infoInt rfl (by decide) (V 8) sl.length (ints sl) e1 own _ 1 [.int .i64 (c:Int)] e2 (sl_lit hb) (by simp [Value.oneCell']) (by have:=HSL.out;unfold maxLen;omega) (by have:=HSL.out;omega) hj.ex.size ?_;intro v' w' hown hg ha;exact hK _ _ (hj.set11 d5 d2 hi h12 h14 (Ex.grown hj.ex own (Nat.le_refl _) hg) hg (own_snoc hown))
        ·have d5:L 5=true:=hd ⟨5,.data⟩ (by simp) rfl;have d11:L 11=true:=hd ⟨11,.data⟩ (by simp) rfl;have h14:L 14=false:=bool_no fun h=> absurd (hi.symm.trans (hcl 14 _ h rfl ⟨12,.data⟩ (by simp) rfl)) (by decide);have e1:=hf.in_ 5 37 d5 rfl rfl;have e2:=hf.in_ 11 43 d11 rfl rfl;obtain ⟨a5,c5,h5⟩:=own_shape (hj.v5 d5 h14);obtain ⟨a11,c11,h11⟩:=own_shape (hj.v11 d11 h14);rw [h5] at e1;rw [h11] at e2;clear hf hcl hd;go_simp;exact hK _ _ (hj.set12 (by rw [h5,h11];simp))
        ·have h14:L 14=false:=bool_no fun h=> absurd (hi.symm.trans (hcl 14 _ h rfl ⟨13,.data⟩ (by simp) rfl)) (by decide);clear hf hcl hd;go_simp;exact hK _ _ ((hj.grow (e_al w _)).set13 h14 rfl hj.ex.size (heap_at rfl))
        ·have d12:L 12=true:=hd ⟨12,.data⟩ (by simp) rfl;have d13:L 13=true:=hd ⟨13,.data⟩ (by simp) rfl;have d5:L 5=true:=hcl 12 _ d12 rfl ⟨5,.data⟩ (by simp) rfl;have d11:L 11=true:=hcl 12 _ d12 rfl ⟨11,.data⟩ (by simp) rfl;have d2:L 2=true:=hcl 5 _ d5 rfl ⟨2,.data⟩ (by simp) rfl;have e1:=hf.in_ 13 9 d13 rfl rfl;have e2:=hf.in_ 12 44 d12 rfl rfl;obtain ⟨qb,hq1,hq2,hq3⟩:=hj.v13 d13 hi;have o5:=hj.v5 d5 hi;have o11:=hj.v11 d11 hi;have hQ:=QBx.of_set (by decide) o5 o11 hj.ex hq2 hq3;obtain ⟨a5,c5,h5⟩:=own_shape o5;obtain ⟨a11,c11,h11⟩:=own_shape o11;rw [hq1] at e1;rw [hj.v12 d12] at e2;have hf5:=hj.set14 (u:=undef) d5 d11 hi d2 hq1 hQ;obtain ⟨q0,q1,qf0,qf1⟩:=qbx_cells hq3;rw [show (tl ++ [(j:Int)]).length=tl.length + 1 from by simp] at h5;rw [show (sl ++ [(c:Int)]).length=sl.length + 1 from by simp] at h11;rw [h5,h11] at e2 hf5;have HF:=hid_ hf5;clear hf hcl hd hQ hf5;go_simp;exact hK undef _ HF.out
       ·intro L V w hall hj;obtain ⟨qb,h13,hQ⟩:=hj.v14 (hall 14 (by decide));have HQ:=hid_ hQ;clear hj hall hQ;simp only [putK,Act.put,List.setIfInBounds_toArray,List.set_cons_zero,List.set_cons_succ];go_wp2_with fail
        go_meet
        exact ⟨qb,_,_,h13,HQ⟩
      case rest=>
       obtain ⟨qb,tv',sv',rfl,hq⟩:=hcut;have q0:=hq.out.c0;have q1:=hq.out.c1;have HWC:=hid_ (HH.out.ex _ _ _ HST.out hq.out.ex);have HKC:=hid_ (HK.out.trans (HH.out.keeps HST.out hq.out.ex));have HCALL:=hid_ (HS.out _ wc j c tv' sv' HWC.out hjn HCF.out hc1 hcl (PrS.fresh hq.out.t fun B hB=> HH.out.new HST.out hq.out.ex (hq.out.tb B hB)) (PrS.fresh hq.out.s fun B hB=> HH.out.new HST.out hq.out.ex (hq.out.sb B hB)));have HAT:=hid_ (rnA_at (step:=step) (tl:=tl) (sl:=sl) (j:=j) (c:=c - 1) HE2.out);rw [show c - 1 + 1=c from by omega] at HAT;rw [←HAT.out] at HCALL;have HHIT:=hid_ (fun (h:(rnA step tl sl j c s1).2≠0)=> by
        have:=rnJ_hit (step:=step) (q:=q) (tl:=tl) (sl:=sl) (s:=s) (n:=n) (c:=c) HE.out HCF.out hjn (by omega) (by rw [HS1.out];exact h);rw [HS1.out] at this;exact this)
       obtain ⟨E,hE⟩:∃E,(rnA step tl sl j c s1).2=E:=⟨_,rfl⟩;rw [hE] at HCALL HHIT;have HEE:=hid_ hE;clear hq HST HK HCT1 HCT2 HALL b0 b1 HAT hE;by_cases h0:E=0
       ·have hb0:(E !=0)=false:=by simp [h0]
        have HE0:=hid_ h0;clear h0 HHIT;go_wp2_with (go_at_call 104;refine HCALL.out.mono ?_;rintro e w6 ⟨rfl,hst6,hk6⟩;have HST6:=hid_ hst6;have HK6:=hid_ (HKC.out.trans hk6);clear hst6 hk6)
        go_roundw
        case rel=> first | exact ⟨c + 1,by omega,by omega,by go_num,hid_ (by rw [show c + 1 - 1=c from by omega,HEE.out,HE0.out]),hid_ (by rw [show c + 1 - 1=c from by omega];exact HST6.out),HK6⟩ | ((repeat apply Exists.intro);exact ⟨⟨c + 1,by omega,by omega,by go_num,hid_ (by rw [show c + 1 - 1=c from by omega,HEE.out,HE0.out]),hid_ (by rw [show c + 1 - 1=c from by omega];exact HST6.out),HK6⟩,rfl⟩)
        case measure=> simp [intOf];omega
       ·have hb0:(E !=0)=true:=by simpa using h0
        have HR:=hid_ (HHIT.out h0);clear h0 HHIT;go_wp2_with (go_at_call 104;refine HCALL.out.mono ?_;rintro e w6 ⟨rfl,hst6,hk6⟩;have HST6:=hid_ hst6;have HK6:=hid_ (HKC.out.trans hk6);clear hst6 hk6)
        go_ret;exact ⟨by rw [HR.out,HEE.out];rfl,by rw [HR.out];exact HST6.out,HK01.out.trans HK6.out⟩
     ·obtain rfl:c=q:=by omega
      have HRO:=hid_ (rnJ_out (step:=step) (q:=c) (sl:=sl) (s:=s) HE.out HCF.out);rw [HS1.out] at HRO;go_wp2_with (go_at_call 110;refine HORD.out.mono ?_;rintro e w5 ⟨rfl,rfl⟩)
      go_roundw
      case rel=> first | exact ⟨j + 1,by omega,by go_num,hid_ (by rw [HRO.out];exact HE2.out),hid_ (by rw [HRO.out];exact HST.out),HK⟩ | ((repeat apply Exists.intro);exact ⟨⟨j + 1,by omega,by go_num,hid_ (by rw [HRO.out];exact HE2.out),hid_ (by rw [HRO.out];exact HST.out),HK⟩,rfl⟩)
      case measure=> simp [intOf];omega
  ·obtain rfl:j=n:=by omega
   have HE:=hid_ he.out;have HST:=hid_ hst.out;have HK:=hid_ hk.out;clear he hst hk;go_wp2_with fail
   go_ret;exact ⟨by rw [HE.out];rfl,HST.out,HK01.out.trans HK.out⟩
theorem ext_fol {σ:Type} {St:σ→World→Prop} {DM:World→Nat→Prop} (H:Stt St DM) (step:σ→List Int→List Int→σ × Int) (w:World) (A b n q:Nat) (hq1:1≤q) (hq:q≤256) (hn:n≤64) (p0 p1 p2 p3:Value) (tl sl:List Int) (tv sv:Value)
  (hC:∀s w1,St s w1→w1.cell? ⟨A,0,none⟩=some (.pointer (some ⟨b,0,none⟩))∧w1.cell? ⟨A,4,none⟩=some (.int .i64 n)∧Calls Tryz.prog 110 #[.pointer (some ⟨b,0,none⟩)] w1 fun r w'=> r= .returned (.int .i64 (q:Int))∧w1=w')
  (hS:∀s w1 (j c:Nat) tv' sv',St s w1→j < n→tl.contains (j:Int)=false→1≤c→c < q→PrS DM w1 tv' (tl ++ [(j:Int)])→PrS DM w1 sv' (sl ++ [(c:Int)])→Calls Tryz.prog 70 #[.agg #[tv',sv'],p0,p1,p2,p3] w1 fun r w'=> r= .returned (.int .i64 (step s (tl ++ [(j:Int)]) (sl ++ [(c:Int)])).2)∧St (step s (tl ++ [(j:Int)]) (sl ++ [(c:Int)])).1 w'∧Keeps DM w1 w')
  (htl:tl.length≤64) (hsl:sl.length≤64) (s:σ) (hs:St s w) (ht:PrS DM w tv tl) (hsv:PrS DM w sv sl):
  Calls Tryz.prog 71 #[.pointer (some ⟨A,0,none⟩),.agg #[tv,sv],.func (.func 70) #[] #[p0,p1,p2,p3]] w fun r w'=> r= .returned (.int .i64 (rnJ step q tl sl n s).2)∧St (rnJ step q tl sl n s).1 w'∧Keeps DM w w':=by
 obtain ⟨b0,b1,eb,hsz⟩:=boxP_facts w tv sv;obtain ⟨BP,hBP⟩:∃B,w.heap.size=B:=⟨_,rfl⟩;rw [hBP] at b0 b1;have HNB:=hid_ (H.new hs eb (B:=BP) (by omega));have HK01:=hid_ (H.keeps hs eb);have HT:=hid_ (ht.keep HK01.out);have HSV:=hid_ (hsv.keep HK01.out);have HS1:=hid_ (H.ex _ _ _ hs eb);have HH:=hid_ H;have HC:=hid_ hC;have HS:=hid_ hS;have B0:=hid_ b0;have B1:=hid_ b1;obtain ⟨-,c4,-⟩:=hC _ _ HS1.out;clear hC hS H hs ht hsv eb hsz b0 b1;go_enter Tryz.func71,Tryz.ntmps71
 go_wp2_with fail
 try simp only [hBP]
 clear hBP;generalize w.alloc (.cells #[tv,sv] 49)=w1 at *;have HKR:=hid_ (Keeps.refl DM w1);clear c4
 go_loopw [16] (fun j' wr=> ∃j:Nat,j≤n∧j'= .int .i64 j∧Hid ((rnJ step q tl sl j s).2=0)∧Hid (St (rnJ step q tl sl j s).1 wr)∧Hid (Keeps DM w1 wr)) (fun j' _=> n - (intOf j').toNat)
 case atStart=> exact ⟨0,by omega,rfl,hid_ rfl,HS1,HKR⟩
 case round=>
  clear HS1 HKR;obtain ⟨j,hj,rfl,he,hst,hk⟩:=hrel;by_cases hjn:j < n
  ·have b0:=hk.out.cell HNB.out B0.out;have hto:=(HT.out.keep hk.out).1;have i1:(j:Int) < (n:Int):=by omega
   have HCT:=hid_ (Contains_any wr tl tv j hto);have HE:=hid_ he.out;have HST:=hid_ hst.out;have HK:=hid_ hk.out;clear he hst hk
   cases hc:tl.contains (j:Int) with
   | true=>
    rw [hc] at HCT;have HRI:=hid_ (rnJ_in (step:=step) (q:=q) (sl:=sl) (s:=s) HE.out hc);clear hc;go_wp2_with (go_at_call 109;refine HCT.out.mono ?_;rintro e w4 ⟨rfl,rfl⟩)
    go_roundw
    case rel=> exact ⟨j + 1,by omega,by go_num,hid_ (by rw [HRI.out];exact HE.out),hid_ (by rw [HRI.out];exact HST.out),HK⟩
    case measure=> simp [intOf];omega
   | false=>
    rw [hc] at HCT;have HCF:=hid_ hc;obtain ⟨s1,hs1⟩:∃s1,(rnJ step q tl sl j s).1=s1:=⟨_,rfl⟩;rw [hs1] at HST;have HS1:=hid_ hs1;clear hc hs1;go_wp2_with (go_at_call 109;refine HCT.out.mono ?_;rintro e w4 ⟨rfl,rfl⟩)
    clear b0 hto
    go_loopw [8] (fun c' wr=> ∃c:Nat,1≤c∧c≤q∧c'= .int .i64 c∧Hid ((rnA step tl sl j (c - 1) s1).2=0)∧Hid (St (rnA step tl sl j (c - 1) s1).1 wr)∧Hid (Keeps DM w1 wr)) (fun c' _=> q - (intOf c').toNat)
    case atStart=> exact ⟨1,by omega,by omega,rfl,hid_ rfl,HST,HK⟩
    case round=>
     clear HST HK;obtain ⟨c,hc1,hcq,rfl,he,hst,hk⟩:=hrel;have HE2:=hid_ he.out;have HST:=hid_ hst.out;have HK:=hid_ hk.out;obtain ⟨c0,-,hord⟩:=HC.out _ _ hst.out;have HORD:=hid_ hord;clear he hst hk hord;by_cases hcl:c < q
     ·have b0:=HK.out.cell HNB.out B0.out;have b1:=HK.out.cell HNB.out B1.out;have i2:(c:Int) < (q:Int):=by omega
      have htl2:=(HT.out.keep HK.out).1;have hsl2:=(HSV.out.keep HK.out).1;have HCT1:=hid_ (fun (w5:World) (h5:Ex wr w5)=> CloneO_any w5 tl tv (htl2.ex h5) (by omega));have HCT2:=hid_ (fun (w5:World) (h5:Ex wr w5)=> CloneO_any w5 sl sv (hsl2.ex h5) (by omega));have HALL:=hid_ (fun (w5:World) (h5:Ex wr w5)=> (⟨h5.cell b0,h5.cell b1,h5⟩:w5.cell? ⟨BP,0,none⟩=some tv∧w5.cell? ⟨BP,1,none⟩=some sv∧Ex wr w5));clear htl2 hsl2;go_wp2_with (go_at_call 110;refine HORD.out.mono ?_;rintro e w5 ⟨rfl,rfl⟩)
      go_upto_region 8 with fail
      go_cut [9] from 32 to 50 (fun s9 wx=> ∃qb tv' sv',s9= .pointer (some ⟨qb,0,none⟩)∧Hid (QBx wr wx qb tv' sv' (tl ++ [(j:Int)]) (sl ++ [(c:Int)])))
      case first=>
       have X0:=hid_ (Ex.refl wr).drew;have HTL:=hid_ htl;have HSL:=hid_ hsl;clear c0;refine wp_region_inv (ExJ wr BP tv sv tl sl j c) (by kernel_rfl) (by kernel_rfl) ?_ ?_ ?_
       ·exact ⟨X0.out,fun h=> (by cases h),fun h=> (by cases h),fun h=> (by cases h),fun h=> (by cases h),fun h=> (by cases h),fun h=> (by cases h),fun h=> (by cases h),fun h=> (by cases h),fun h=> (by cases h),fun h=> (by cases h),fun h=> (by cases h),fun h=> (by cases h),fun h=> (by cases h),fun h=> (by cases h),fun h=> (by cases h)⟩
       ·refine ⟨fun L V a w hf hj hi hd hcl K hK=> ?_,fun L V a w hf hj hi hd hcl K hK=> ?_,fun L V a w hf hj hi hd hcl K hK=> ?_,fun L V a w hf hj hi hd hcl K hK=> ?_,fun L V a w hf hj hi hd hcl K hK=> ?_,fun L V a w hf hj hi hd hcl K hK=> ?_,fun L V a w hf hj hi hd hcl K hK=> ?_,fun L V a w hf hj hi hd hcl K hK=> ?_,fun L V a w hf hj hi hd hcl K hK=> ?_,fun L V a w hf hj hi hd hcl K hK=> ?_,fun L V a w hf hj hi hd hcl K hK=> ?_,fun L V a w hf hj hi hd hcl K hK=> ?_,fun L V a w hf hj hi hd hcl K hK=> ?_,fun L V a w hf hj hi hd hcl K hK=> ?_,fun L V a w hf hj hi hd hcl K hK=> ?_,trivial⟩
        ·have e:a.tmps[4]?=some (.pointer (some ⟨BP,0,none⟩)):=hf.out_ 4 (by kernel_rfl);clear hf hcl hd;go_simp;exact hK _ _ (hj.set0 rfl)
        ·have d0:L 0=true:=hd ⟨0,.data⟩ (by simp) rfl;have e:=hf.in_ 0 32 d0 rfl rfl;rw [hj.v0 d0] at e;have c0:=hj.ex.cell b0;clear hf hcl hd;go_simp;exact hK _ _ (hj.set1 rfl)
        ·have d1:L 1=true:=hd ⟨1,.data⟩ (by simp) rfl;have e:=hf.in_ 1 33 d1 rfl rfl;rw [hj.v1 d1] at e;have hc:=hid_ (HCT1.out w hj.ex);clear hf hcl hd;go_simp;refine hc.out.mono ?_;rintro e w' ⟨v1,rfl,ho,hx⟩;refine hK _ _ ((hj.grow hx).set2 (ownsRow_mono ho hj.ex.size) (fun B hB e=> ?_));obtain ⟨o,hb,hv,h10,h11⟩:=hB;obtain ⟨B',h1,h2,h3⟩:=hj.v10 h10 h11;have e2:B=B':=by
          have:=hv.symm.trans h1;injection this with this;injection this with this;injection this with this
         have h4:B' < w.heap.size:=(Array.getElem?_eq_some_iff.1 h2).1;have:=(ho.lt B e).1;omega
        ·have e:a.tmps[7]?=some (.int .i64 j):=hf.out_ 7 (by kernel_rfl);clear hf hcl hd;go_simp;exact hK _ _ (hj.set3 rfl)
        ·have d3:L 3=true:=hd ⟨3,.data⟩ (by simp) rfl;have e:=hf.in_ 3 35 d3 rfl rfl;rw [hj.v3 d3] at e;clear hf hcl hd;go_simp;exact hK _ _ ((hj.grow (e_al w _)).set4 rfl (heap_at rfl))
        ·have d2:L 2=true:=hd ⟨2,.data⟩ (by simp) rfl;have d4:L 4=true:=hd ⟨4,.data⟩ (by simp) rfl;have e1:=eval_tmp (hf.in_ 2 34 d2 rfl rfl);have e2:=eval_tmp (hf.in_ 4 36 d4 rfl rfl);obtain ⟨B,hv,hb⟩:=hj.v4 d4 hi;have h12:L 12=false:=bool_no fun h=> absurd (hi.symm.trans (hcl 12 _ h rfl ⟨5,.data⟩ (by simp) rfl)) (by decide);have h8:L 8=false:=bool_no fun h=> absurd (hi.symm.trans (hcl 8 _ h rfl ⟨5,.chain⟩ (by simp) rfl)) (by decide);have h11:L 11=false:=bool_no fun h=> absurd (h8.symm.trans (hcl 11 _ h rfl ⟨8,.data⟩ (by simp) rfl)) (by decide);have h14:L 14=false:=bool_no fun h=> absurd (h12.symm.trans (hcl 14 _ h rfl ⟨12,.data⟩ (by simp) rfl)) (by decide);rw [hv] at e2;have own:=hj.v2 d2 hi;refine opwp_append _ _ 22 rfl wr.heap.size 3 (.int .i64 0) 1 8 Tryz.underlying22 infoInt rfl (by decide) (V 2) tl.length (ints tl) e1 own _ 1 [.int .i64 (j:Int)] e2 (sl_lit hb) (by simp [Value.oneCell']) (by have:=HTL.out;unfold maxLen;omega) (by have:=HTL.out;omega) hj.ex.size ?_;intro v' w' hown hg ha;exact hK _ _ (hj.set5 d2 hi h8 h11 h12 h14 (Ex.grown hj.ex own (Nat.le_refl _) hg) hg (own_snoc hown))
        ·have e:a.tmps[4]?=some (.pointer (some ⟨BP,0,none⟩)):=hf.out_ 4 (by kernel_rfl);clear hf hcl hd;go_simp;exact hK _ _ (hj.set6 rfl)
        ·have d0:L 6=true:=hd ⟨6,.data⟩ (by simp) rfl;have e:=hf.in_ 6 38 d0 rfl rfl;rw [hj.v6 d0] at e;have c0:=hj.ex.cell b1;clear hf hcl hd;go_simp;exact hK _ _ (hj.set7 rfl)
        ·have d1:L 7=true:=hd ⟨7,.data⟩ (by simp) rfl;have d5:L 5=true:=hd ⟨5,.chain⟩ (by simp) rfl;have h11:L 11=false:=bool_no fun h=> absurd (hi.symm.trans (hcl 11 _ h rfl ⟨8,.data⟩ (by simp) rfl)) (by decide);have h14:L 14=false:=bool_no fun h=> absurd (h11.symm.trans (hcl 14 _ h rfl ⟨11,.chain⟩ (by simp) rfl)) (by decide);have e:=hf.in_ 7 39 d1 rfl rfl;rw [hj.v7 d1] at e;have hc:=hid_ (HCT2.out w hj.ex);have own5:=hj.v5 d5 h14;clear hf hcl hd;go_simp;refine hc.out.mono ?_;rintro e w' ⟨v1,rfl,ho,hx⟩;refine hK _ _ ((hj.grow hx).set8 (ownsRow_mono ho hj.ex.size) ?_)
         cases h5b:(V 5).ownBlock with
         | none=> exact .inl h5b
         | some B=>
          right;rw [h5b];intro e2;have h1:=(own5.lt B h5b).2;have h2:=(ho.lt B e2.symm).1;omega
        ·have e:a.tmps[8]?=some (.int .i64 c):=hf.out_ 8 (by kernel_rfl);clear hf hcl hd;go_simp;exact hK _ _ (hj.set9 rfl)
        ·have d3:L 9=true:=hd ⟨9,.data⟩ (by simp) rfl;have e:=hf.in_ 9 41 d3 rfl rfl;rw [hj.v9 d3] at e;clear hf hcl hd;go_simp;exact hK _ _ ((hj.grow (e_al w _)).set10 rfl (heap_at rfl) (fun h2 h5 e2=> by have:=(hj.v2 h2 h5).lt _ e2;omega))
        ·have d2:L 8=true:=hd ⟨8,.data⟩ (by simp) rfl;have d4:L 10=true:=hd ⟨10,.data⟩ (by simp) rfl;have d5:L 5=true:=hcl 8 _ d2 rfl ⟨5,.chain⟩ (by simp) rfl;have e1:=eval_tmp (hf.in_ 8 40 d2 rfl rfl);have e2:=eval_tmp (hf.in_ 10 42 d4 rfl rfl);obtain ⟨B,hv,hb,-⟩:=hj.v10 d4 hi;have h12:L 12=false:=bool_no fun h=> absurd (hi.symm.trans (hcl 12 _ h rfl ⟨11,.data⟩ (by simp) rfl)) (by decide);have h14:L 14=false:=bool_no fun h=> absurd (h12.symm.trans (hcl 14 _ h rfl ⟨12,.data⟩ (by simp) rfl)) (by decide);rw [hv] at e2;have own:=(hj.v8 d2 hi).1;refine opwp_append _ _ 22 rfl wr.heap.size 3 (.int .i64 0) 1 8 Tryz.underlying22 infoInt rfl (by decide) (V 8) sl.length (ints sl) e1 own _ 1 [.int .i64 (c:Int)] e2 (sl_lit hb) (by simp [Value.oneCell']) (by have:=HSL.out;unfold maxLen;omega) (by have:=HSL.out;omega) hj.ex.size ?_;intro v' w' hown hg ha;exact hK _ _ (hj.set11 d5 d2 hi h12 h14 (Ex.grown hj.ex own (Nat.le_refl _) hg) hg (own_snoc hown))
        ·have d5:L 5=true:=hd ⟨5,.data⟩ (by simp) rfl;have d11:L 11=true:=hd ⟨11,.data⟩ (by simp) rfl;have h14:L 14=false:=bool_no fun h=> absurd (hi.symm.trans (hcl 14 _ h rfl ⟨12,.data⟩ (by simp) rfl)) (by decide);have e1:=hf.in_ 5 37 d5 rfl rfl;have e2:=hf.in_ 11 43 d11 rfl rfl;obtain ⟨a5,c5,h5⟩:=own_shape (hj.v5 d5 h14);obtain ⟨a11,c11,h11⟩:=own_shape (hj.v11 d11 h14);rw [h5] at e1;rw [h11] at e2;clear hf hcl hd;go_simp;exact hK _ _ (hj.set12 (by rw [h5,h11];simp))
        ·have h14:L 14=false:=bool_no fun h=> absurd (hi.symm.trans (hcl 14 _ h rfl ⟨13,.data⟩ (by simp) rfl)) (by decide);clear hf hcl hd;go_simp;exact hK _ _ ((hj.grow (e_al w _)).set13 h14 rfl hj.ex.size (heap_at rfl))
        ·have d12:L 12=true:=hd ⟨12,.data⟩ (by simp) rfl;have d13:L 13=true:=hd ⟨13,.data⟩ (by simp) rfl;have d5:L 5=true:=hcl 12 _ d12 rfl ⟨5,.data⟩ (by simp) rfl;have d11:L 11=true:=hcl 12 _ d12 rfl ⟨11,.data⟩ (by simp) rfl;have d2:L 2=true:=hcl 5 _ d5 rfl ⟨2,.data⟩ (by simp) rfl;have e1:=hf.in_ 13 9 d13 rfl rfl;have e2:=hf.in_ 12 44 d12 rfl rfl;obtain ⟨qb,hq1,hq2,hq3⟩:=hj.v13 d13 hi;have o5:=hj.v5 d5 hi;have o11:=hj.v11 d11 hi;have hQ:=QBx.of_set (by decide) o5 o11 hj.ex hq2 hq3;obtain ⟨a5,c5,h5⟩:=own_shape o5;obtain ⟨a11,c11,h11⟩:=own_shape o11;rw [hq1] at e1;rw [hj.v12 d12] at e2;have hf5:=hj.set14 (u:=undef) d5 d11 hi d2 hq1 hQ;obtain ⟨q0,q1,qf0,qf1⟩:=qbx_cells hq3;rw [show (tl ++ [(j:Int)]).length=tl.length + 1 from by simp] at h5;rw [show (sl ++ [(c:Int)]).length=sl.length + 1 from by simp] at h11;rw [h5,h11] at e2 hf5;have HF:=hid_ hf5;clear hf hcl hd hQ hf5;go_simp;exact hK undef _ HF.out
       ·intro L V w hall hj;obtain ⟨qb,h13,hQ⟩:=hj.v14 (hall 14 (by decide));have HQ:=hid_ hQ;clear hj hall hQ;simp only [putK,Act.put,List.setIfInBounds_toArray,List.set_cons_zero,List.set_cons_succ];go_wp2_with fail
        go_meet
        exact ⟨qb,_,_,h13,HQ⟩
      case rest=>
       obtain ⟨qb,tv',sv',rfl,hq⟩:=hcut;have q0:=hq.out.c0;have q1:=hq.out.c1;have HWC:=hid_ (HH.out.ex _ _ _ HST.out hq.out.ex);have HKC:=hid_ (HK.out.trans (HH.out.keeps HST.out hq.out.ex));have HCALL:=hid_ (HS.out _ wc j c tv' sv' HWC.out hjn HCF.out hc1 hcl (PrS.fresh hq.out.t fun B hB=> HH.out.new HST.out hq.out.ex (hq.out.tb B hB)) (PrS.fresh hq.out.s fun B hB=> HH.out.new HST.out hq.out.ex (hq.out.sb B hB)));have HAT:=hid_ (rnA_at (step:=step) (tl:=tl) (sl:=sl) (j:=j) (c:=c - 1) HE2.out);rw [show c - 1 + 1=c from by omega] at HAT;rw [←HAT.out] at HCALL;have HHIT:=hid_ (fun (h:(rnA step tl sl j c s1).2≠0)=> by
        have:=rnJ_hit (step:=step) (q:=q) (tl:=tl) (sl:=sl) (s:=s) (n:=n) (c:=c) HE.out HCF.out hjn (by omega) (by rw [HS1.out];exact h);rw [HS1.out] at this;exact this)
       obtain ⟨E,hE⟩:∃E,(rnA step tl sl j c s1).2=E:=⟨_,rfl⟩;rw [hE] at HCALL HHIT;have HEE:=hid_ hE;clear hq HST HK HCT1 HCT2 HALL b0 b1 HAT hE;by_cases h0:E=0
       ·have hb0:(E !=0)=false:=by simp [h0]
        have HE0:=hid_ h0;clear h0 HHIT;go_wp2_with (go_at_call 70;refine HCALL.out.mono ?_;rintro e w6 ⟨rfl,hst6,hk6⟩;have HST6:=hid_ hst6;have HK6:=hid_ (HKC.out.trans hk6);clear hst6 hk6)
        go_roundw
        case rel=> first | exact ⟨c + 1,by omega,by omega,by go_num,hid_ (by rw [show c + 1 - 1=c from by omega,HEE.out,HE0.out]),hid_ (by rw [show c + 1 - 1=c from by omega];exact HST6.out),HK6⟩ | ((repeat apply Exists.intro);exact ⟨⟨c + 1,by omega,by omega,by go_num,hid_ (by rw [show c + 1 - 1=c from by omega,HEE.out,HE0.out]),hid_ (by rw [show c + 1 - 1=c from by omega];exact HST6.out),HK6⟩,rfl⟩)
        case measure=> simp [intOf];omega
       ·have hb0:(E !=0)=true:=by simpa using h0
        have HR:=hid_ (HHIT.out h0);clear h0 HHIT;go_wp2_with (go_at_call 70;refine HCALL.out.mono ?_;rintro e w6 ⟨rfl,hst6,hk6⟩;have HST6:=hid_ hst6;have HK6:=hid_ (HKC.out.trans hk6);clear hst6 hk6)
        go_ret;exact ⟨by rw [HR.out,HEE.out];rfl,by rw [HR.out];exact HST6.out,HK01.out.trans HK6.out⟩
     ·obtain rfl:c=q:=by omega
      have HRO:=hid_ (rnJ_out (step:=step) (q:=c) (sl:=sl) (s:=s) HE.out HCF.out);rw [HS1.out] at HRO;go_wp2_with (go_at_call 110;refine HORD.out.mono ?_;rintro e w5 ⟨rfl,rfl⟩)
      go_roundw
      case rel=> first | exact ⟨j + 1,by omega,by go_num,hid_ (by rw [HRO.out];exact HE2.out),hid_ (by rw [HRO.out];exact HST.out),HK⟩ | ((repeat apply Exists.intro);exact ⟨⟨j + 1,by omega,by go_num,hid_ (by rw [HRO.out];exact HE2.out),hid_ (by rw [HRO.out];exact HST.out),HK⟩,rfl⟩)
      case measure=> simp [intOf];omega
  ·obtain rfl:j=n:=by omega
   have HE:=hid_ he.out;have HST:=hid_ hst.out;have HK:=hid_ hk.out;clear he hst hk;go_wp2_with fail
   go_ret;exact ⟨by rw [HE.out];rfl,HST.out,HK01.out.trans HK.out⟩
end Go.Proofs.YtgdmlmhpineibaaGreat
