/- Small helpers over any program: worlds that only grow, slices that read as lists of cells. -/
/- Arrays that a call has made itself, read as functions; make as a law of the walk. -/
import Derived.Test.YtgdmlmhpineibaaGreatRows
import Derived.WalkKit
import Derived.WalkSpells
import Derived.Deep.RegionWith
import Derived.Deep.QuietTactic
import Derived.BigQuiet
import Derived.WalkLawsBesides
import Derived.OwnWalk
import Derived.Laws.OwnMore
namespace Go.Proofs.YtgdmlmhpineibaaGreat
set_option linter.unusedVariables false
set_option linter.unusedSimpArgs false
open Go.RowKit

theorem hid_ {p : Prop} (h : p) : Hid p := h
theorem ret_int {k : IntKind} {a b : Int} (h : a = b) : Ending.returned (.int k a) = .returned (.int k b) := by rw [h]
theorem ret_bool {a b : Bool} (h : a = b) : Ending.returned (.bool a) = .returned (.bool b) := by rw [h]
/-- The world has only grown. -/
def Ex (w w' : World) : Prop := Below w.heap.size w w'
theorem Ex.refl (w : World) : Ex w w := Below.refl _ _
theorem Ex.trans {a b c : World} (h : Ex a b) (k : Ex b c) : Ex a c := Below.trans h (Below.mono k h.size)
theorem Ex.drew {a b : World} (h : Ex a b) : Ex a b.drew := Below.drew h
theorem Ex.drewN {a b : World} (h : Ex a b) (n : Nat) : Ex a (b.drewN n) := below_drewN h n
theorem Ex.alloc {a b : World} (h : Ex a b) (o : Obj) : Ex a (b.alloc o) := Below.alloc h h.size o
theorem Ex.setCell {a b : World} (h : Ex a b) {p : Addr} (hp : a.heap.size ≤ p.block) (u : Value) : Ex a (b.setCell p u) := Below.setCell h hp u
theorem Ex.cell {w w' : World} (h : Ex w w') {p : Addr} {u : Value} (hc : w.cell? p = some u) : w'.cell? p = some u :=
  (Below.cell h (World.block_lt_of_cell? w _ hc)).trans hc
/-- A slice that reads as these cells, `size` of them for each element. -/
def Sl (w : World) (v : Value) (n size : Nat) (xs : List Value) : Prop :=
  xs.length = n * size ∧ ∃ a cap, v = .slice a n cap ∧ n ≤ cap ∧ cap ≤ maxLen ∧
    (0 < n → ∃ b o, a = some ⟨b, o, none⟩ ∧ ∀ j u, xs[j]? = some u → w.cell? ⟨b, o + j, none⟩ = some u)
theorem Sl.ex {w w' : World} {v : Value} {n size : Nat} {xs : List Value} (h : Sl w v n size xs) (hx : Ex w w') : Sl w' v n size xs := by
  obtain ⟨h1, a, cap, h2, h3, h4, h5⟩ := h
  refine ⟨h1, a, cap, h2, h3, h4, fun hn => ?_⟩
  obtain ⟨b, o, h6, h7⟩ := h5 hn
  exact ⟨b, o, h6, fun j u hu => hx.cell (h7 j u hu)⟩
theorem Sl.nil (w : World) (size : Nat) : Sl w (.slice none 0 0) 0 size [] := ⟨by simp, none, 0, rfl, Nat.le_refl _, by unfold maxLen; omega, fun h => absurd h (by omega)⟩
theorem Sl.own {w : World} {base : Nat} {e : TypeId} {size : Nat} {v : Value} {n : Nat} {xs : List Value} (h : w.ownsRow base e size v n xs) : Sl w v n size xs := by
  refine ⟨h.1, ?_⟩
  rcases h.2 with ⟨h2, h3⟩ | ⟨g, cap, cur, hv, hb, hg, h1, h2, h3, h4⟩
  · exact ⟨none, 0, by rw [h2, h3], by omega, by unfold maxLen; omega, fun h => by omega⟩
  · refine ⟨some ⟨g, 0, none⟩, cap, hv, h1, h2, fun _ => ⟨g, 0, rfl, fun j u hu => ?_⟩⟩
    rw [Nat.zero_add, cell_of_row w g j cur e (0, 0) hg]
    rw [← h4, List.getElem?_take] at hu
    split at hu
    · simpa using hu
    · cases hu
theorem ownsRow_setCell_ne {w : World} {base : Nat} {e : TypeId} {size : Nat} {v : Value} {n : Nat} {xs : List Value} (h : w.ownsRow base e size v n xs) {a : Addr} (ha : v.ownBlock ≠ some a.block) (u : Value) : (w.setCell a u).ownsRow base e size v n xs := by
  refine h.kept (row := some a.block) ⟨rfl, rfl, rfl, by simp [World.setCell], fun k _ hk => Below.heap_setCell _ _ _ _ (fun e => hk (by rw [e]))⟩ ?_
  exact .inr ha
theorem ownsRow_ex {w w' : World} {base : Nat} {e : TypeId} {size : Nat} {v : Value} {n : Nat} {xs : List Value} (h : w.ownsRow base e size v n xs) (hx : Ex w w') : w'.ownsRow base e size v n xs := by
  refine h.kept (row := none) ⟨hx.os, hx.tape, hx.output, hx.size, fun k hk _ => hx.block k hk⟩ ?_
  cases v.ownBlock <;> simp
/-- Behind an append by 'wpList_append_own'. -/
theorem Ex.grown {a w w' : World} {base : Nat} {e : TypeId} {size : Nat} {v : Value} {n : Nat} {xs : List Value} (h : Ex a w) (hown : w.ownsRow base e size v n xs) (hb : a.heap.size ≤ base) (hg : w.grownBy w' v.ownBlock) : Ex a w' :=
  Below.grown h hg h.size (fun k hk => Nat.le_trans hb (hown.lt k hk).1)
theorem cell_set_off {w : World} {B i j : Nat} {u : Value} (h : i ≠ j) : (w.setCell ⟨B, i, none⟩ u).cell? ⟨B, j, none⟩ = w.cell? ⟨B, j, none⟩ :=
  World.cell?_setCell_other _ _ _ _ (by intro e; injection e; omega)
theorem w64 {x : Int} (h1 : -9223372036854775808 ≤ x) (h2 : x ≤ 9223372036854775807) : wrap64 x = x := IntWalk.wrap64_in _ ⟨h1, h2⟩
/-- The ints of a slice as cells. -/
def ints (l : List Int) : List Value := l.map (Value.int .i64)
theorem ints_length (l : List Int) : (ints l).length = l.length := List.length_map _
theorem ints_get {l : List Int} {j : Nat} {x : Int} (h : l[j]? = some x) : (ints l)[j]? = some (.int .i64 x) := by simp [ints, h]
/-- A slice of ints that reads as a list. -/
def ISl (w : World) (v : Value) (l : List Int) : Prop := Sl w v l.length 1 (ints l)
theorem ISl.ex {w w' : World} {v : Value} {l : List Int} (h : ISl w v l) (hx : Ex w w') : ISl w' v l := Sl.ex h hx
/-- What the walk wants of such a slice. -/
theorem ISl.open {w : World} {v : Value} {l : List Int} (h : ISl w v l) : ∃ a cap, v = .slice a l.length cap ∧ l.length ≤ cap ∧ cap ≤ maxLen ∧
    (0 < l.length → ∃ b o, a = some ⟨b, o, none⟩ ∧ ∀ j x, l[j]? = some x → w.cell? ⟨b, o + j, none⟩ = some (.int .i64 x)) := by
  obtain ⟨h1, a, cap, h2, h3, h4, h5⟩ := h
  refine ⟨a, cap, h2, h3, h4, fun hn => ?_⟩
  obtain ⟨b, o, h6, h7⟩ := h5 hn
  exact ⟨b, o, h6, fun j x hx => h7 j _ (ints_get hx)⟩
theorem quiet_draw {P : Program} {f : FuncId} {args : Array Value} {w : World} {n : Nat} {v : Value}
    (h : Calls P f args (w.drewN n) fun e w' => e = .returned v ∧ ∃ k, w' = (w.drewN n).drewN k) : Calls P f args (w.drewN n) fun e w'' => e = .returned v ∧ ∃ m, w'' = w.drewN m :=
  h.mono fun _ _ ⟨he, k, hm⟩ => ⟨he, n + k, by rw [hm, World.drewN_drewN]⟩
/-- A slice literal of three ints, behind one block. -/
theorem isl_made (w : World) (l : List Int) (t : TypeId) (hl : l.length ≤ 1000) : ISl (w.alloc (.cells (ints l).toArray t)) (.slice (some ⟨w.heap.size, 0, none⟩) l.length l.length) l := by
  refine ⟨by rw [ints_length]; omega, some ⟨w.heap.size, 0, none⟩, l.length, rfl, Nat.le_refl _, by unfold maxLen; omega, fun _ => ⟨_, _, rfl, fun j u h => ?_⟩⟩
  rw [Nat.zero_add]
  simpa using h
end Go.Proofs.YtgdmlmhpineibaaGreat
namespace Go.Proofs.YtgdmlmhpineibaaGreat
set_option linter.unusedVariables false
set_option linter.unusedSimpArgs false
open Go.RowKit

/-- The first n values of a function. -/
def vs (n : Nat) (c : Nat → Value) : List Value := (List.range n).map c
theorem vs_length (n : Nat) (c : Nat → Value) : (vs n c).length = n := by simp [vs]
theorem vs_get {n j : Nat} (h : j < n) (c : Nat → Value) : (vs n c)[j]? = some (c j) := by simp [vs, h]
def upd {α : Type} (c : Nat → α) (k : Nat) (u : α) : Nat → α := fun j => if j = k then u else c j
theorem vs_set (n k : Nat) (c : Nat → Value) (u : Value) : (vs n c).set k u = vs n (upd c k u) := by
  apply List.ext_getElem?
  intro j
  rw [List.getElem?_set]
  by_cases h : k = j
  · subst h
    by_cases hk : k < n
    · simp [vs, upd, hk]
    · simp [vs, hk]
  · rw [if_neg h]
    by_cases hj : j < n
    · rw [vs_get hj, vs_get hj]; unfold upd; rw [if_neg (fun e => h e.symm)]
    · simp [vs, hj]
theorem vs_succ (n : Nat) (c : Nat → Value) : vs (n + 1) c = vs n c ++ [c n] := by simp [vs, List.range_succ]
theorem vs_congr {n : Nat} {c d : Nat → Value} (h : ∀ j, j < n → c j = d j) : vs n c = vs n d :=
  List.map_congr_left fun j hj => h j (List.mem_range.1 hj)
theorem vs_replicate (n : Nat) (u : Value) : List.replicate n u = vs n (fun _ => u) := by
  apply List.ext_getElem?
  intro j
  by_cases hj : j < n <;> simp [vs, hj]
/-- An array of the call's own, in the block g. -/
def Own (w : World) (base : Nat) (e : TypeId) (g n : Nat) (c : Nat → Value) : Prop := w.ownsRow base e 1 (.slice (some ⟨g, 0, none⟩) n n) n (vs n c)
section
variable {w : World} {base : Nat} {e : TypeId} {g n : Nat} {c : Nat → Value}
theorem Own.cell (h : Own w base e g n c) {j : Nat} (hj : j < n) : w.cell? ⟨g, j, none⟩ = some (c j) := by
  rw [World.ownsRow.cellAt h j (by omega), vs_get hj]
theorem Own.frz (h : Own w base e g n c) (j : Nat) : w.frozen? ⟨g, j, none⟩ = false := World.ownsRow.frozenAt h j
theorem Own.set (h : Own w base e g n c) (j : Nat) (u : Value) : Own (w.setCell ⟨g, j, none⟩ u) base e g n (upd c j u) := by
  have := (World.ownsRow.stored h j u).1
  rwa [vs_set] at this
theorem Own.congr {d : Nat → Value} (h : Own w base e g n c) (hc : ∀ j, j < n → c j = d j) : Own w base e g n d := by
  unfold Own at *
  rwa [vs_congr hc] at h
theorem Own.ex {w' : World} (h : Own w base e g n c) (hx : Ex w w') : Own w' base e g n c := ownsRow_ex h hx
theorem Own.drew (h : Own w base e g n c) : Own w.drew base e g n c := h
theorem Own.drewN (h : Own w base e g n c) (k : Nat) : Own (w.drewN k) base e g n c := h.ex ((Ex.refl w).drewN k)
theorem Own.alloc (h : Own w base e g n c) (o : Obj) : Own (w.alloc o) base e g n c := World.ownsRow.alloc h o
theorem Own.lt (h : Own w base e g n c) : base ≤ g ∧ g < w.heap.size := World.ownsRow.lt h g rfl
theorem Own.other (h : Own w base e g n c) {a : Addr} (ha : g ≠ a.block) (u : Value) : Own (w.setCell a u) base e g n c :=
  ownsRow_setCell_ne h (fun e => ha (by simpa [Value.ownBlock] using e)) u
theorem Own.exSet {a : World} (h : Own w base e g n c) (hb : a.heap.size ≤ base) (hx : Ex a w) (j : Nat) (u : Value) : Ex a (w.setCell ⟨g, j, none⟩ u) :=
  hx.setCell (p := ⟨g, j, none⟩) (Nat.le_trans hb h.lt.1) u
theorem Own.sl (h : Own w base e g n c) : Sl w (.slice (some ⟨g, 0, none⟩) n n) n 1 (vs n c) := Sl.own h
theorem Own.mono {b' : Nat} (h : Own w base e g n c) (hb : b' ≤ base) : Own w b' e g n c := by
  refine ⟨h.1, ?_⟩
  rcases h.2 with h1 | ⟨g', cap, cur, h1, h2, h3⟩
  · exact .inl h1
  · exact .inr ⟨g', cap, cur, h1, Nat.le_trans hb h2, h3⟩
end

theorem Own.heap {w : World} {base : Nat} {e : TypeId} {g n : Nat} {c : Nat → Value} (h : Own w base e g n c) : w.heap[g]? = some (.cells (vs n c).toArray e (0, 0)) := by
  rcases h.2 with ⟨h', _⟩ | ⟨g', cap', cur, h', hb, hg, hnc, hcm, hcs, htake⟩
  · simp at h'
  · simp only [Value.slice.injEq, Option.some.injEq, Addr.mk.injEq, and_true, true_and] at h'
    obtain ⟨rfl, rfl⟩ := h'
    rw [List.take_of_length_le (by rw [Array.length_toList, hcs]; exact Nat.le_refl _)] at htake
    rw [hg, ← htake]
theorem Own.of_heap {w : World} {base : Nat} {e : TypeId} {g n : Nat} {c : Nat → Value} (h : w.heap[g]? = some (.cells (vs n c).toArray e (0, 0))) (hb : base ≤ g) (hn : n ≤ maxLen) : Own w base e g n c :=
  ⟨by rw [vs_length, Nat.mul_one], .inr ⟨g, n, (vs n c).toArray, rfl, hb, h, Nat.le_refl _, hn, by simp [vs_length], by rw [List.take_of_length_le (by simp [vs_length])]⟩⟩
/-- 'make([]T, n)' of elements of one cell. -/
theorem wpList_make_arr {P : Program} (w : World) {ops : Array Oper} {rest : List Oper} {o : Oper} {a : Act} {Q : Exit → Act → World → Prop}
    (hg : o.guard = none) (l c : Operand) (t : TypeId) (hop : o.op = Op.makeSlice t l c)
    (e : TypeId) (z : Value) (bytes : Nat) (h1 : P.underlying t = some (.slice e)) (hi : (P.info? e).map (fun i => (i.zero, i.size, i.bytes)) = some (some z, 1, bytes)) (hz : z.cells = #[z])
    (L : Int) (n : Nat) (hl : a.eval l = .int .i64 L) (hc : a.eval c = .int .i64 L) (hL : L = (n : Int)) (b2 : bytes * n ≤ 281474976710656) (b3 : n ≤ maxLen)
    (hK : ∀ w', Own w' w.heap.size e w.heap.size n (fun _ => z) → Ex w w' → wpList P ops Q rest (a.put o.dst (.slice (some ⟨w.heap.size, 0, none⟩) n n)) w') :
    wpList P ops Q (o :: rest) a w := by
  obtain ⟨i, hi0, hz0, hz1, hz2⟩ := info_parts hi
  refine wpList_make_full w hg l c t hop w.heap.size e i z 1 h1 hi0 hz0 hz1 .i64 .i64 L L n hl hc hL hL (by rw [hz2]; exact b2) b3 (Nat.le_refl _) ?_
  intro w' hown hgr
  rw [hz, Nat.mul_one, toList_madeCells_one, vs_replicate] at hown
  exact hK w' hown (Below.grown (Below.refl _ _) hgr (Nat.le_refl _) (fun k hk => by cases hk))
/-- The ints of a function. -/
def iv (f : Nat → Int) : Nat → Value := fun j => .int .i64 (f j)
theorem iv_upd (f : Nat → Int) (k : Nat) (y : Int) : upd (iv f) k (.int .i64 y) = iv (upd f k y) := by
  funext j; by_cases h : j = k <;> simp [upd, iv, h]
theorem Own.icongr {w : World} {base : Nat} {e : TypeId} {g n : Nat} {f h : Nat → Int} (hf : Own w base e g n (iv f)) (hc : ∀ j, j < n → f j = h j) : Own w base e g n (iv h) :=
  hf.congr fun j hj => congrArg (Value.int .i64) (hc j hj)
/-- The first n values of a function, as a list. -/
def il (n : Nat) (f : Nat → Int) : List Int := (List.range n).map f
theorem il_length (n : Nat) (f : Nat → Int) : (il n f).length = n := by simp [il]
theorem il_get {n j : Nat} (h : j < n) (f : Nat → Int) : (il n f)[j]? = some (f j) := by simp [il, h]
theorem ints_il (n : Nat) (f : Nat → Int) : ints (il n f) = vs n (iv f) := by simp [ints, il, vs, iv]
theorem Own.isl {w : World} {base : Nat} {e : TypeId} {g n : Nat} {f : Nat → Int} (h : Own w base e g n (iv f)) : ISl w (.slice (some ⟨g, 0, none⟩) n n) (il n f) := by
  unfold ISl
  rw [il_length, ints_il]
  exact h.sl
/-- The bools of a function. -/
def bv (f : Nat → Bool) : Nat → Value := fun j => .bool (f j)
theorem bv_upd (f : Nat → Bool) (k : Nat) (y : Bool) : upd (bv f) k (.bool y) = bv (upd f k y) := by
  funext j; by_cases h : j = k <;> simp [upd, bv, h]
theorem Own.bcongr {w : World} {base : Nat} {e : TypeId} {g n : Nat} {f h : Nat → Bool} (hf : Own w base e g n (bv f)) (hc : ∀ j, j < n → f j = h j) : Own w base e g n (bv h) :=
  hf.congr fun j hj => congrArg Value.bool (hc j hj)
theorem w64_div (y p : Nat) (h : y ≤ 9223372036854775807) : wrap64 ((y : Int) / (p : Int)) = ((y / p : Nat) : Int) := by
  have h1 := Nat.div_le_self y p
  rw [← Int.natCast_ediv]
  generalize y / p = q at *
  exact w64 (by omega) (by omega)
theorem upd_same {α : Type} (c : Nat → α) (k : Nat) (u : α) : upd c k u k = u := by unfold upd; rw [if_pos rfl]
theorem upd_ne {α : Type} (c : Nat → α) {k j : Nat} (u : α) (h : j ≠ k) : upd c k u j = c j := by unfold upd; rw [if_neg h]
end Go.Proofs.YtgdmlmhpineibaaGreat
