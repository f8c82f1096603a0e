/- The rows that elimination works on, and the walks of its closures. -/
import Derived.Test.YtpphaicbdeeacaaPeelHB
namespace Go.Proofs.Ytpphaicbdeeacaa
set_option linter.unusedVariables false
set_option linter.unusedSimpArgs false
open Go.RowKit

def rowV (blk cap : Nat → Nat) (N i : Nat) : Value := .slice (some ⟨blk i, 0, none⟩) N (cap i)
/-- R rows of N entries in blocks of their own, apart from the blocks of avs. -/
structure EM (w : World) (base g R N : Nat) (blk cap : Nat → Nat) (a : Nat → Nat → Int) (avs : List Nat) : Prop where
  arr : Own w base 22 g R (rowV blk cap N)
  row : ∀ i, i < R → OwnC w base 3 (blk i) N (cap i) (iv (a i))
  apart : ∀ i j, i < R → j < R → i ≠ j → blk i ≠ blk j
  off : ∀ i, i < R → blk i ≠ g
  av : ∀ B ∈ avs, B < w.heap.size ∧ g ≠ B ∧ ∀ i, i < R → blk i ≠ B
/-- The blocks of avs stand as they stood. -/
def Kp (w w' : World) (avs : List Nat) : Prop := ∀ B ∈ avs, w'.heap[B]? = w.heap[B]?
theorem Kp.refl (w : World) (avs : List Nat) : Kp w w avs := fun _ _ => rfl
theorem Kp.trans {a b c : World} {avs : List Nat} (h : Kp a b avs) (k : Kp b c avs) : Kp a c avs := fun B hB => (k B hB).trans (h B hB)
theorem Kp.cell {w w' : World} {avs : List Nat} (h : Kp w w' avs) {B o : Nat} {v : Value} (hB : B ∈ avs) (hc : w.cell? ⟨B, o, none⟩ = some v) : w'.cell? ⟨B, o, none⟩ = some v := by
  rw [World.cell?_of_block (h B hB)]; exact hc
theorem Kp.frz {w w' : World} {avs : List Nat} (h : Kp w w' avs) {B o : Nat} (hB : B ∈ avs) : w'.frozen? ⟨B, o, none⟩ = w.frozen? ⟨B, o, none⟩ := World.frozen?_of_block (h B hB)
section
variable {w : World} {base g R N : Nat} {blk cap : Nat → Nat} {a : Nat → Nat → Int} {avs : List Nat}
theorem EM.ex (h : EM w base g R N blk cap a avs) {w' : World} (hx : Ex w w') : EM w' base g R N blk cap a avs :=
  ⟨h.arr.ex hx, fun i hi => (h.row i hi).ex hx, h.apart, h.off, fun B hB => by obtain ⟨h1, h2⟩ := h.av B hB; exact ⟨Nat.lt_of_lt_of_le h1 hx.size, h2⟩⟩
theorem EM.kpx (h : EM w base g R N blk cap a avs) {w' : World} (hx : Ex w w') : Kp w w' avs := fun B hB => hx.block B (h.av B hB).1
theorem EM.more (h : EM w base g R N blk cap a avs) {B : Nat} (h1 : B < w.heap.size) (h2 : ∀ b, b < B → True) (hg : g ≠ B) (hb : ∀ i, i < R → blk i ≠ B) : EM w base g R N blk cap a (B :: avs) :=
  ⟨h.arr, h.row, h.apart, h.off, fun C hC => by
    rcases List.mem_cons.1 hC with rfl | hC
    · exact ⟨h1, hg, hb⟩
    · exact h.av C hC⟩
theorem EM.less (h : EM w base g R N blk cap a avs) {bvs : List Nat} (hs : ∀ B ∈ bvs, B ∈ avs) : EM w base g R N blk cap a bvs := ⟨h.arr, h.row, h.apart, h.off, fun B hB => h.av B (hs B hB)⟩
/-- A new block for a variable. -/
theorem EM.box (h : EM w base g R N blk cap a avs) (o : Obj) : EM (w.alloc o) base g R N blk cap a (w.heap.size :: avs) := by
  have h1 := h.ex ((Ex.refl w).alloc o)
  refine ⟨h1.arr, h1.row, h1.apart, h1.off, fun C hC => ?_⟩
  rcases List.mem_cons.1 hC with rfl | hC
  · refine ⟨by simp, fun e => ?_, fun i hi e => ?_⟩
    · have := h.arr.lt.2; omega
    · have := (h.row i hi).lt.2; omega
  · exact h1.av C hC
theorem heap_size_set (w : World) (x : Addr) (u : Value) : (w.setCell x u).heap.size = w.heap.size := by simp
/-- A store into the block of a variable. -/
theorem EM.setBox (h : EM w base g R N blk cap a avs) {B j : Nat} (hB : B ∈ avs) (u : Value) : EM (w.setCell ⟨B, j, none⟩ u) base g R N blk cap a avs := by
  obtain ⟨_, h2, h3⟩ := h.av B hB
  exact ⟨h.arr.other h2 u, fun i hi => (h.row i hi).other (h3 i hi) u, h.apart, h.off, fun C hC => by rw [heap_size_set]; exact h.av C hC⟩
/-- A store into the array of rows. -/
theorem EM.put (h : EM w base g R N blk cap a avs) {s nb nc : Nat} {f : Nat → Int} (hs : s < R) (hn : OwnC w base 3 nb N nc (iv f)) (hb : ∀ i, i < R → i ≠ s → blk i ≠ nb) (hg : nb ≠ g) (ha : ∀ B ∈ avs, nb ≠ B) :
    EM (w.setCell ⟨g, s, none⟩ (.slice (some ⟨nb, 0, none⟩) N nc)) base g R N (upd blk s nb) (upd cap s nc) (upd a s f) avs := by
  have hu : ∀ i, i ≠ s → upd blk s nb i = blk i := fun i hi => upd_ne _ _ hi
  refine ⟨?_, fun i hi => ?_, fun i j hi hj hij => ?_, fun i hi => ?_, fun B hB => ?_⟩
  · refine (h.arr.set s _).congr fun i hi => ?_
    unfold rowV
    by_cases e : i = s
    · subst e; rw [upd_same, upd_same, upd_same]
    · rw [upd_ne _ _ e, upd_ne _ _ e, upd_ne _ _ e]
  · by_cases e : i = s
    · subst e; rw [upd_same, upd_same, upd_same]; exact hn.other hg _
    · rw [upd_ne _ _ e, upd_ne _ _ e, upd_ne _ _ e]; exact (h.row i hi).other (h.off i hi) _
  · by_cases e : i = s
    · subst e; rw [upd_same, hu j (fun e => hij e.symm)]; exact fun e => hb j hj (fun e => hij e.symm) e.symm
    · by_cases e2 : j = s
      · subst e2; rw [upd_same, hu i e]; exact hb i hi e
      · rw [hu i e, hu j e2]; exact h.apart i j hi hj hij
  · by_cases e : i = s
    · subst e; rw [upd_same]; exact hg
    · rw [hu i e]; exact h.off i hi
  · rw [heap_size_set]
    obtain ⟨h1, h2, h3⟩ := h.av B hB
    refine ⟨h1, h2, fun i hi => ?_⟩
    by_cases e : i = s
    · subst e; rw [upd_same]; exact ha B hB
    · rw [hu i e]; exact h3 i hi
/-- Another content of a row. -/
theorem EM.rowAt (h : EM w base g R N blk cap a avs) {w' : World} {s : Nat} {f : Nat → Int} (hs : s < R) (hn : OwnC w' base 3 (blk s) N (cap s) (iv f)) (hg : w.grownBy w' (some (blk s))) : EM w' base g R N blk cap (upd a s f) avs ∧ Kp w w' avs := by
  refine ⟨⟨?_, fun i hi => ?_, h.apart, h.off, fun B hB => ?_⟩, fun B hB => ?_⟩
  · exact World.ownsRow.kept h.arr hg (.inr (by show some g ≠ some (blk s); intro e; injection e with e; exact h.off s hs e.symm))
  · by_cases e : i = s
    · subst e; rw [upd_same]; exact hn
    · rw [upd_ne _ _ e]
      exact World.ownsRow.kept (h.row i hi) hg (.inr (by show some (blk i) ≠ some (blk s); intro e2; injection e2 with e2; exact h.apart i s hi hs e e2))
  · obtain ⟨h1, h2⟩ := h.av B hB
    exact ⟨Nat.lt_of_lt_of_le h1 hg.size, h2⟩
  · obtain ⟨h1, h2, h3⟩ := h.av B hB
    exact hg.block B h1 (by intro e; injection e with e; exact h3 s hs e.symm)
theorem EM.cell (h : EM w base g R N blk cap a avs) {i : Nat} (hi : i < R) : w.cell? ⟨g, i, none⟩ = some (.slice (some ⟨blk i, 0, none⟩) N (cap i)) := h.arr.cell hi
theorem EM.ent (h : EM w base g R N blk cap a avs) {i j : Nat} (hi : i < R) (hj : j < N) : w.cell? ⟨blk i, j, none⟩ = some (.int .i64 (a i j)) := (h.row i hi).cell hj
/-- Two rows change places. -/
def swpN (b : Nat → Nat) (s k : Nat) : Nat → Nat := fun i => if i = s then b k else if i = k then b s else b i
theorem swpN_perm {b : Nat → Nat} {s k : Nat} (i : Nat) : ∃ j, swpN b s k i = b j ∧ (i = s → j = k) ∧ (i = k → i ≠ s → j = s) ∧ (i ≠ s → i ≠ k → j = i) := by
  unfold swpN
  by_cases e : i = s
  · exact ⟨k, by rw [if_pos e], fun _ => rfl, fun _ h => absurd e h, fun h => absurd e h⟩
  · by_cases e2 : i = k
    · exact ⟨s, by rw [if_neg e, if_pos e2], fun h => absurd h e, fun _ _ => rfl, fun _ h => absurd e2 h⟩
    · exact ⟨i, by rw [if_neg e, if_neg e2], fun h => absurd h e, fun h => absurd h e2, fun _ _ => rfl⟩
theorem EM.swp (h : EM w base g R N blk cap a avs) {s k : Nat} (hs : s < R) (hk : k < R) (hsk : s ≠ k) :
    EM ((w.setCell ⟨g, s, none⟩ (rowV blk cap N k)).setCell ⟨g, k, none⟩ (rowV blk cap N s)) base g R N (swpN blk s k) (swpN cap s k) (swpA a s k) avs := by
  have hsz : ((w.setCell ⟨g, s, none⟩ (rowV blk cap N k)).setCell ⟨g, k, none⟩ (rowV blk cap N s)).heap.size = w.heap.size := by rw [heap_size_set, heap_size_set]
  have key : ∀ i, i < R → ∃ j, j < R ∧ swpN blk s k i = blk j ∧ swpN cap s k i = cap j ∧ swpA a s k i = a j ∧ ((i = s ∧ j = k) ∨ (i = k ∧ i ≠ s ∧ j = s) ∨ (i ≠ s ∧ i ≠ k ∧ j = i)) := fun i hi => by
    unfold swpN swpA
    by_cases e : i = s
    · exact ⟨k, hk, by rw [if_pos e], by rw [if_pos e], by rw [if_pos e], .inl ⟨e, rfl⟩⟩
    · by_cases e2 : i = k
      · exact ⟨s, hs, by rw [if_neg e, if_pos e2], by rw [if_neg e, if_pos e2], by rw [if_neg e, if_pos e2], .inr (.inl ⟨e2, e, rfl⟩)⟩
      · exact ⟨i, hi, by rw [if_neg e, if_neg e2], by rw [if_neg e, if_neg e2], by rw [if_neg e, if_neg e2], .inr (.inr ⟨e, e2, rfl⟩)⟩
  refine ⟨?_, fun i hi => ?_, fun i j hi hj hij => ?_, fun i hi => ?_, fun B hB => ?_⟩
  · refine ((h.arr.set s (rowV blk cap N k)).set k (rowV blk cap N s)).congr fun i hi => ?_
    unfold rowV swpN
    by_cases e : i = k
    · subst e
      rw [upd_same, if_neg (fun e => hsk e.symm), if_pos rfl, if_neg (fun e => hsk e.symm), if_pos rfl]
    · rw [upd_ne _ _ e]
      by_cases e2 : i = s
      · subst e2; rw [upd_same, if_pos rfl, if_pos rfl]
      · rw [upd_ne _ _ e2, if_neg e2, if_neg e, if_neg e2, if_neg e]
  · obtain ⟨j, hj, e1, e2, e3, _⟩ := key i hi
    rw [e1, e2, e3]
    exact ((h.row j hj).other (h.off j hj) _).other (h.off j hj) _
  · obtain ⟨i', hi', e1, _, _, c1⟩ := key i hi
    obtain ⟨j', hj', e2, _, _, c2⟩ := key j hj
    rw [e1, e2]
    exact h.apart i' j' hi' hj' (by omega)
  · obtain ⟨j, hj, e1, _⟩ := key i hi
    rw [e1]; exact h.off j hj
  · rw [hsz]
    obtain ⟨h1, h2, h3⟩ := h.av B hB
    exact ⟨h1, h2, fun i hi => by obtain ⟨j, hj, e1, _⟩ := key i hi; rw [e1]; exact h3 j hj⟩
theorem EM.kpg (h : EM w base g R N blk cap a avs) (s : Nat) (u : Value) : Kp w (w.setCell ⟨g, s, none⟩ u) avs := fun B hB => by
  obtain ⟨_, h2, _⟩ := h.av B hB
  exact Below.heap_setCell w ⟨g, s, none⟩ u B (fun e => h2 e.symm)
end
end Go.Proofs.Ytpphaicbdeeacaa
