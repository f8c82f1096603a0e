/- Arrays that a call has made itself, read as functions; make as a law of the walk. -/
/- Plain: the cycles of a permutation. -/
import Derived.OwnWalk
import Derived.Laws.OwnMore
import Derived.Test.YtgfdhclpffakfaaGreatZa00
import Derived.Test.YtgfdhclpffakfaaGreatZa02
namespace Go.Proofs.YtgfdhclpffakfaaGreat
set_option linter.unusedVariables false
set_option linter.unusedSimpArgs false
open Go.RowKit

/-- The first n values of a function. -/
def vs (n : Nat) (c : Nat → Value) : List Value := (List.range n).map c
theorem vs_length (n : Nat) (c : Nat → Value) : (vs n c).length = n := by simp [vs]
theorem vs_get {n j : Nat} (h : j < n) (c : Nat → Value) : (vs n c)[j]? = some (c j) := by simp [vs, h]
def upd {α : Type} (c : Nat → α) (k : Nat) (u : α) : Nat → α := fun j => if j = k then u else c j
theorem vs_set (n k : Nat) (c : Nat → Value) (u : Value) : (vs n c).set k u = vs n (upd c k u) := by
  apply List.ext_getElem?
  intro j
  rw [List.getElem?_set]
  by_cases h : k = j
  · subst h
    by_cases hk : k < n
    · simp [vs, upd, hk]
    · simp [vs, hk]
  · rw [if_neg h]
    by_cases hj : j < n
    · rw [vs_get hj, vs_get hj]; unfold upd; rw [if_neg (fun e => h e.symm)]
    · simp [vs, hj]
theorem vs_congr {n : Nat} {c d : Nat → Value} (h : ∀ j, j < n → c j = d j) : vs n c = vs n d :=
  List.map_congr_left fun j hj => h j (List.mem_range.1 hj)
theorem vs_replicate (n : Nat) (u : Value) : List.replicate n u = vs n (fun _ => u) := by
  apply List.ext_getElem?
  intro j
  by_cases hj : j < n <;> simp [vs, hj]
/-- An array of the call's own, in the block g. -/
def Own (w : World) (base : Nat) (e : TypeId) (g n : Nat) (c : Nat → Value) : Prop := w.ownsRow base e 1 (.slice (some ⟨g, 0, none⟩) n n) n (vs n c)
section
variable {w : World} {base : Nat} {e : TypeId} {g n : Nat} {c : Nat → Value}
theorem Own.cell (h : Own w base e g n c) {j : Nat} (hj : j < n) : w.cell? ⟨g, j, none⟩ = some (c j) := by
  rw [World.ownsRow.cellAt h j (by omega), vs_get hj]
theorem Own.frz (h : Own w base e g n c) (j : Nat) : w.frozen? ⟨g, j, none⟩ = false := World.ownsRow.frozenAt h j
theorem Own.set (h : Own w base e g n c) (j : Nat) (u : Value) : Own (w.setCell ⟨g, j, none⟩ u) base e g n (upd c j u) := by
  have := (World.ownsRow.stored h j u).1
  rwa [vs_set] at this
theorem Own.congr {d : Nat → Value} (h : Own w base e g n c) (hc : ∀ j, j < n → c j = d j) : Own w base e g n d := by
  unfold Own at *
  rwa [vs_congr hc] at h
theorem Own.ex {w' : World} (h : Own w base e g n c) (hx : Ex w w') : Own w' base e g n c := ownsRow_ex h hx
theorem Own.drewN (h : Own w base e g n c) (k : Nat) : Own (w.drewN k) base e g n c := h.ex ((Ex.refl w).drewN k)
theorem Own.alloc (h : Own w base e g n c) (o : Obj) : Own (w.alloc o) base e g n c := World.ownsRow.alloc h o
theorem Own.lt (h : Own w base e g n c) : base ≤ g ∧ g < w.heap.size := World.ownsRow.lt h g rfl
theorem Own.other (h : Own w base e g n c) {a : Addr} (ha : g ≠ a.block) (u : Value) : Own (w.setCell a u) base e g n c :=
  ownsRow_setCell_ne h (fun e => ha (by simpa [Value.ownBlock] using e)) u
theorem Own.exSet {a : World} (h : Own w base e g n c) (hb : a.heap.size ≤ base) (hx : Ex a w) (j : Nat) (u : Value) : Ex a (w.setCell ⟨g, j, none⟩ u) :=
  hx.setCell (p := ⟨g, j, none⟩) (Nat.le_trans hb h.lt.1) u
theorem Own.sl (h : Own w base e g n c) : Sl w (.slice (some ⟨g, 0, none⟩) n n) n 1 (vs n c) := Sl.own h
theorem Own.mono {b' : Nat} (h : Own w base e g n c) (hb : b' ≤ base) : Own w b' e g n c := by
  refine ⟨h.1, ?_⟩
  rcases h.2 with h1 | ⟨g', cap, cur, h1, h2, h3⟩
  · exact .inl h1
  · exact .inr ⟨g', cap, cur, h1, Nat.le_trans hb h2, h3⟩
end

/-- 'make([]T, n)' of elements of one cell. -/
theorem wpList_make_arr {P : Program} (w : World) {ops : Array Oper} {rest : List Oper} {o : Oper} {a : Act} {Q : Exit → Act → World → Prop}
    (hg : o.guard = none) (l c : Operand) (t : TypeId) (hop : o.op = Op.makeSlice t l c)
    (e : TypeId) (z : Value) (bytes : Nat) (h1 : P.underlying t = some (.slice e)) (hi : (P.info? e).map (fun i => (i.zero, i.size, i.bytes)) = some (some z, 1, bytes)) (hz : z.cells = #[z])
    (L : Int) (n : Nat) (hl : a.eval l = .int .i64 L) (hc : a.eval c = .int .i64 L) (hL : L = (n : Int)) (b2 : bytes * n ≤ 281474976710656) (b3 : n ≤ maxLen)
    (hK : ∀ w', Own w' w.heap.size e w.heap.size n (fun _ => z) → Ex w w' → wpList P ops Q rest (a.put o.dst (.slice (some ⟨w.heap.size, 0, none⟩) n n)) w') :
    wpList P ops Q (o :: rest) a w := by
  obtain ⟨i, hi0, hz0, hz1, hz2⟩ := info_parts hi
  refine wpList_make_full w hg l c t hop w.heap.size e i z 1 h1 hi0 hz0 hz1 .i64 .i64 L L n hl hc hL hL (by rw [hz2]; exact b2) b3 (Nat.le_refl _) ?_
  intro w' hown hgr
  rw [hz, Nat.mul_one, toList_madeCells_one, vs_replicate] at hown
  exact hK w' hown (Below.grown (Below.refl _ _) hgr (Nat.le_refl _) (fun k hk => by cases hk))
/-- The ints of a function. -/
def iv (f : Nat → Int) : Nat → Value := fun j => .int .i64 (f j)
theorem Own.icongr {w : World} {base : Nat} {e : TypeId} {g n : Nat} {f h : Nat → Int} (hf : Own w base e g n (iv f)) (hc : ∀ j, j < n → f j = h j) : Own w base e g n (iv h) :=
  hf.congr fun j hj => congrArg (Value.int .i64) (hc j hj)
/-- The first n values of a function, as a list. -/
def il (n : Nat) (f : Nat → Int) : List Int := (List.range n).map f
theorem il_length (n : Nat) (f : Nat → Int) : (il n f).length = n := by simp [il]
theorem il_get {n j : Nat} (h : j < n) (f : Nat → Int) : (il n f)[j]? = some (f j) := by simp [il, h]
theorem ints_il (n : Nat) (f : Nat → Int) : ints (il n f) = vs n (iv f) := by simp [ints, il, vs, iv]
theorem Own.isl {w : World} {base : Nat} {e : TypeId} {g n : Nat} {f : Nat → Int} (h : Own w base e g n (iv f)) : ISl w (.slice (some ⟨g, 0, none⟩) n n) (il n f) := by
  unfold ISl
  rw [il_length, ints_il]
  exact h.sl
/-- The bools of a function. -/
def bv (f : Nat → Bool) : Nat → Value := fun j => .bool (f j)
theorem bv_upd (f : Nat → Bool) (k : Nat) (y : Bool) : upd (bv f) k (.bool y) = bv (upd f k y) := by
  funext j; by_cases h : j = k <;> simp [upd, bv, h]
theorem Own.bcongr {w : World} {base : Nat} {e : TypeId} {g n : Nat} {f h : Nat → Bool} (hf : Own w base e g n (bv f)) (hc : ∀ j, j < n → f j = h j) : Own w base e g n (bv h) :=
  hf.congr fun j hj => congrArg Value.bool (hc j hj)
theorem w64_div (y p : Nat) (h : y ≤ 9223372036854775807) : wrap64 ((y : Int) / (p : Int)) = ((y / p : Nat) : Int) := by
  have h1 := Nat.div_le_self y p
  rw [← Int.natCast_ediv]
  generalize y / p = q at *
  exact w64 (by omega) (by omega)
theorem upd_same {α : Type} (c : Nat → α) (k : Nat) (u : α) : upd c k u k = u := by unfold upd; rw [if_pos rfl]
theorem upd_ne {α : Type} (c : Nat → α) {k j : Nat} (u : α) (h : j ≠ k) : upd c k u j = c j := by unfold upd; rw [if_neg h]
end Go.Proofs.YtgfdhclpffakfaaGreat
namespace Go.Proofs.YtgfdhclpffakfaaGreat
set_option linter.unusedVariables false
set_option linter.unusedSimpArgs false

/-- The length of a point's cycle. -/
def perP (n : Nat) (f : Nat → Nat) (i : Nat) : Nat := ((List.range n).find? fun k => pwP f (k + 1) i == i).getD 0 + 1
theorem perP_facts {n : Nat} {f : Nat → Nat} (hf : IsP n f) {i : Nat} (hi : i < n) : 1 ≤ perP n f i ∧ perP n f i ≤ n ∧ pwP f (perP n f i) i = i ∧ ∀ k, 1 ≤ k → k < perP n f i → pwP f k i ≠ i := by
  obtain ⟨k, h1, h2, h3⟩ := hf.back hi
  unfold perP
  cases h : (List.range n).find? fun k => pwP f (k + 1) i == i with
  | none =>
    have := List.find?_eq_none.1 h (k - 1) (List.mem_range.2 (by omega))
    rw [show k - 1 + 1 = k by omega] at this
    simp [h3] at this
  | some j =>
    rw [List.find?_range_eq_some] at h
    obtain ⟨h4, h5, h6⟩ := h
    have h5 := List.mem_range.1 h5
    refine ⟨by show 1 ≤ j + 1; omega, by show j + 1 ≤ n; omega, by simpa using h4, fun m hm1 hm2 e => ?_⟩
    have hm2 : m < j + 1 := hm2
    have := h6 (m - 1) (by omega)
    rw [show m - 1 + 1 = m by omega] at this
    simp [e] at this
theorem pwP_mod {n : Nat} {f : Nat → Nat} (hf : IsP n f) {i : Nat} (hi : i < n) (k : Nat) : pwP f k i = pwP f (k % perP n f i) i := by
  have h := (perP_facts hf hi).2.2.1
  conv => lhs; rw [← Nat.div_add_mod k (perP n f i)]
  rw [pwP_add]
  show pwP f (k % perP n f i) (pwP f (perP n f i * (k / perP n f i)) i) = _
  rw [pwP_mul_fix h]
theorem pwP_inj {n : Nat} {f : Nat → Nat} (hf : IsP n f) {i : Nat} (hi : i < n) {a b : Nat} (ha : a < perP n f i) (hb : b < perP n f i) (e : pwP f a i = pwP f b i) : a = b := by
  have key : ∀ {a b : Nat}, a < b → b < perP n f i → pwP f a i = pwP f b i → False := fun {a b} hab hb e => by
    have h1 : pwP f b = thenP (pwP f (b - a)) (pwP f a) := by rw [← pwP_add]; congr 1; omega
    rw [h1] at e
    exact (perP_facts hf hi).2.2.2 (b - a) (by omega) (by omega) ((isP_pw hf a).inj _ _ e).symm
  rcases Nat.lt_trichotomy a b with h | h | h
  · exact (key h hb e).elim
  · exact h
  · exact (key h ha e.symm).elim
/-- One point is reached from another. -/
def OrbP (f : Nat → Nat) (x y : Nat) : Prop := ∃ k, pwP f k x = y
theorem OrbP.trans {f : Nat → Nat} {x y z : Nat} (h : OrbP f x y) (k : OrbP f y z) : OrbP f x z := by
  obtain ⟨a, rfl⟩ := h
  obtain ⟨b, rfl⟩ := k
  exact ⟨a + b, by rw [pwP_add]; rfl⟩
theorem OrbP.symm {n : Nat} {f : Nat → Nat} (hf : IsP n f) {x y : Nat} (hx : x < n) (h : OrbP f x y) : OrbP f y x := by
  obtain ⟨k, rfl⟩ := h
  have hL := perP_facts hf hx
  refine ⟨perP n f x * (k + 1) - k, ?_⟩
  have : pwP f (k + (perP n f x * (k + 1) - k)) x = x := by
    have h1 : k ≤ perP n f x * (k + 1) := Nat.le_trans (Nat.le_succ k) (Nat.le_mul_of_pos_left _ hL.1)
    rw [show k + (perP n f x * (k + 1) - k) = perP n f x * (k + 1) by omega]
    exact pwP_mul_fix hL.2.2.1 _
  rw [pwP_add] at this
  exact this
theorem OrbP.bound {n : Nat} {f : Nat → Nat} (hf : IsP n f) {x y : Nat} (hx : x < n) (h : OrbP f x y) : ∃ k, k < perP n f x ∧ pwP f k x = y := by
  obtain ⟨k, rfl⟩ := h
  exact ⟨k % perP n f x, Nat.mod_lt _ (by have := (perP_facts hf hx).1; omega), (pwP_mod hf hx k).symm⟩
/-- The cycle from a point on. -/
def cycP (n : Nat) (f : Nat → Nat) (i : Nat) : List Int := (List.range (perP n f i)).map fun k => (pwP f k i : Int)
def cycK (f : Nat → Nat) (i k : Nat) : List Int := (List.range k).map fun j => (pwP f j i : Int)
theorem cycK_succ (f : Nat → Nat) (i k : Nat) : cycK f i (k + 1) = cycK f i k ++ [(pwP f k i : Int)] := by unfold cycK; rw [List.range_succ, List.map_append]; rfl
theorem cycK_len (f : Nat → Nat) (i k : Nat) : (cycK f i k).length = k := by unfold cycK; simp
/-- The least point of its cycle. -/
def minP (n : Nat) (f : Nat → Nat) (i : Nat) : Bool := (List.range n).all fun k => decide (i ≤ pwP f k i)
theorem minP_iff {n : Nat} {f : Nat → Nat} (hf : IsP n f) {i : Nat} (hi : i < n) : minP n f i = true ↔ ∀ y, OrbP f i y → i ≤ y := by
  unfold minP
  rw [List.all_eq_true]
  constructor
  · intro h y hy
    obtain ⟨k, hk, rfl⟩ := hy.bound hf hi
    have := h k (List.mem_range.2 (by have := (perP_facts hf hi).2.1; omega))
    exact of_decide_eq_true this
  · intro h k _
    exact decide_eq_true (h _ ⟨k, rfl⟩)
/-- A point whose cycle begins below i. -/
def seenI (n : Nat) (f : Nat → Nat) (i x : Nat) : Bool := (List.range n).any fun k => decide (pwP f k x < i)
theorem seenI_iff {n : Nat} {f : Nat → Nat} (hf : IsP n f) {i x : Nat} (hx : x < n) : seenI n f i x = true ↔ ∃ y, OrbP f x y ∧ y < i := by
  unfold seenI
  rw [List.any_eq_true]
  constructor
  · rintro ⟨k, _, h⟩
    exact ⟨_, ⟨k, rfl⟩, of_decide_eq_true h⟩
  · rintro ⟨y, hy, h⟩
    obtain ⟨k, hk, rfl⟩ := hy.bound hf hx
    exact ⟨k, List.mem_range.2 (by have := (perP_facts hf hx).2.1; omega), decide_eq_true h⟩
theorem seenI_self {n : Nat} {f : Nat → Nat} (hf : IsP n f) {i : Nat} (hi : i < n) : seenI n f i i = !minP n f i := by
  rw [Bool.eq_iff_iff, seenI_iff hf hi, Bool.not_eq_true', ← Bool.not_eq_true, minP_iff hf hi]
  constructor
  · rintro ⟨y, h1, h2⟩ h3
    have := h3 y h1; omega
  · intro h
    apply Classical.byContradiction
    intro h2
    refine h fun y hy => ?_
    apply Classical.byContradiction
    intro h3
    exact h2 ⟨y, hy, by omega⟩
/-- The points seen behind k rounds from i on. -/
def seenK (n : Nat) (f : Nat → Nat) (i k x : Nat) : Bool := seenI n f i x || (List.range k).any fun j => pwP f j i == x
theorem seenK_zero (n : Nat) (f : Nat → Nat) (i : Nat) : seenK n f i 0 = seenI n f i := by funext x; unfold seenK; simp
theorem seenK_succ (n : Nat) (f : Nat → Nat) (i k x : Nat) : seenK n f i (k + 1) x = (if x = pwP f k i then true else seenK n f i k x) := by
  unfold seenK
  rw [List.range_succ, List.any_append]
  by_cases h : x = pwP f k i
  · rw [if_pos h]; subst h; simp
  · rw [if_neg h]
    have : (pwP f k i == x) = false := by simpa using fun e => h e.symm
    simp [this]
theorem seenK_at {n : Nat} {f : Nat → Nat} (hf : IsP n f) {i k : Nat} (hi : i < n) (hm : minP n f i = true) (hk : k ≤ perP n f i) : seenK n f i k (pwP f k i) = decide (k = perP n f i) := by
  have hL := perP_facts hf hi
  rw [Bool.eq_iff_iff, decide_eq_true_eq]
  unfold seenK
  rw [Bool.or_eq_true, List.any_eq_true, seenI_iff hf ((isP_pw hf k).lt i hi)]
  constructor
  · rintro (⟨y, h1, h2⟩ | ⟨j, hj, h⟩)
    · have := (minP_iff hf hi).1 hm y (OrbP.trans ⟨k, rfl⟩ h1)
      omega
    · have hj := List.mem_range.1 hj
      apply Classical.byContradiction
      intro hne
      have := pwP_inj hf hi (a := j) (b := k) (by omega) (by omega) (by simpa using h)
      omega
  · rintro rfl
    exact .inr ⟨0, List.mem_range.2 (by omega), by rw [hL.2.2.1]; simp [pwP, idP]⟩
theorem seenI_min {n : Nat} {f : Nat → Nat} (hf : IsP n f) {i x : Nat} (hi : i < n) (hx : x < n) (hm : minP n f i = true) : seenK n f i (perP n f i) x = seenI n f (i + 1) x := by
  rw [Bool.eq_iff_iff]
  unfold seenK
  rw [Bool.or_eq_true, List.any_eq_true, seenI_iff hf hx, seenI_iff hf hx]
  constructor
  · rintro (⟨y, h1, h2⟩ | ⟨j, hj, h⟩)
    · exact ⟨y, h1, by omega⟩
    · have h : pwP f j i = x := by simpa using h
      exact ⟨i, OrbP.symm hf hi ⟨j, h⟩, by omega⟩
  · rintro ⟨y, h1, h2⟩
    by_cases hy : y < i
    · exact .inl ⟨y, h1, hy⟩
    · have hy : y = i := by omega
      subst hy
      obtain ⟨j, hj, e⟩ := (h1.symm hf hx).bound hf hi
      exact .inr ⟨j, List.mem_range.2 hj, by simpa using e⟩
theorem seenI_nomin {n : Nat} {f : Nat → Nat} (hf : IsP n f) {i x : Nat} (hi : i < n) (hx : x < n) (hm : minP n f i = false) : seenI n f i x = seenI n f (i + 1) x := by
  rw [Bool.eq_iff_iff, seenI_iff hf hx, seenI_iff hf hx]
  constructor
  · rintro ⟨y, h1, h2⟩
    exact ⟨y, h1, by omega⟩
  · rintro ⟨y, h1, h2⟩
    by_cases hy : y < i
    · exact ⟨y, h1, hy⟩
    · have hy : y = i := by omega
      subst hy
      have h3 := seenI_self hf hi
      rw [hm] at h3
      obtain ⟨z, h4, h5⟩ := (seenI_iff hf hi).1 h3
      exact ⟨z, h1.trans h4, h5⟩
theorem seenI_zero {n : Nat} {f : Nat → Nat} (x : Nat) : seenI n f 0 x = false := by
  unfold seenI
  rw [List.any_eq_false]
  intro k _; simp
/-- The cycles that begin below m. -/
def cycsK (n : Nat) (f : Nat → Nat) (m : Nat) : List (List Int) := ((List.range m).filter fun i => minP n f i && decide (1 < perP n f i)).map (cycP n f)
theorem cycsK_succ (n : Nat) (f : Nat → Nat) (m : Nat) : cycsK n f (m + 1) = cycsK n f m ++ (if minP n f m = true ∧ 1 < perP n f m then [cycP n f m] else []) := by
  unfold cycsK
  rw [List.range_succ, List.filter_append, List.map_append]
  congr 1
  by_cases h : minP n f m = true ∧ 1 < perP n f m
  · rw [if_pos h]; simp [List.filter, h.1, h.2]
  · rw [if_neg h]
    have : (minP n f m && decide (1 < perP n f m)) = false := by
      rw [← Bool.not_eq_true, Bool.and_eq_true, decide_eq_true_eq]; exact h
    simp [List.filter, this]
theorem cycsK_len (n : Nat) (f : Nat → Nat) (m : Nat) : (cycsK n f m).length ≤ m := by
  unfold cycsK
  rw [List.length_map]
  exact Nat.le_trans (List.length_filter_le _ _) (by simp)
end Go.Proofs.YtgfdhclpffakfaaGreat
