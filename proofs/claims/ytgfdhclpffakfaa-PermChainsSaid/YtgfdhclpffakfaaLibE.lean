/- Slices of the call's own with spare room, read as functions. -/
import Derived.Test.YtgfdhclpffakfaaLibD
namespace Go.Proofs.Ytgfdhclpffakfaa
set_option linter.unusedVariables false
set_option linter.unusedSimpArgs false
open Go.RowKit

/-- A slice of the call's own of n elements in the block g, with room for cap. -/
def OwnC (w : World) (base : Nat) (e : TypeId) (g n cap : Nat) (c : Nat → Value) : Prop := w.ownsRow base e 1 (.slice (some ⟨g, 0, none⟩) n cap) n (vs n c)

section
variable {w : World} {base : Nat} {e : TypeId} {g n cap : Nat} {c : Nat → Value}
theorem OwnC.cell (h : OwnC w base e g n cap c) {j : Nat} (hj : j < n) : w.cell? ⟨g, j, none⟩ = some (c j) := by
  rw [World.ownsRow.cellAt h j (by omega), vs_get hj]
theorem OwnC.frz (h : OwnC w base e g n cap c) (j : Nat) : w.frozen? ⟨g, j, none⟩ = false := World.ownsRow.frozenAt h j
theorem OwnC.set (h : OwnC w base e g n cap c) (j : Nat) (u : Value) : OwnC (w.setCell ⟨g, j, none⟩ u) base e g n cap (upd c j u) := by
  have := (World.ownsRow.stored h j u).1
  rwa [vs_set] at this
theorem OwnC.congr {d : Nat → Value} (h : OwnC w base e g n cap c) (hc : ∀ j, j < n → c j = d j) : OwnC w base e g n cap d := by
  unfold OwnC at *
  rwa [vs_congr hc] at h
theorem OwnC.icongr {f k : Nat → Int} (h : OwnC w base e g n cap (iv f)) (hc : ∀ j, j < n → f j = k j) : OwnC w base e g n cap (iv k) :=
  h.congr fun j hj => congrArg (Value.int .i64) (hc j hj)
theorem OwnC.ex {w' : World} (h : OwnC w base e g n cap c) (hx : Ex w w') : OwnC w' base e g n cap c := ownsRow_ex h hx
theorem OwnC.drew (h : OwnC w base e g n cap c) : OwnC w.drew base e g n cap c := h
theorem OwnC.drewN (h : OwnC w base e g n cap c) (k : Nat) : OwnC (w.drewN k) base e g n cap c := h.ex ((Ex.refl w).drewN k)
theorem OwnC.lt (h : OwnC w base e g n cap c) : base ≤ g ∧ g < w.heap.size := World.ownsRow.lt h g rfl
theorem OwnC.caps (h : OwnC w base e g n cap c) : n ≤ cap ∧ cap ≤ maxLen := by
  rcases h.2 with ⟨h', _⟩ | ⟨g', cap', cur, h', _, hg, h1, h2, _⟩
  · simp at h'
  · simp only [Value.slice.injEq, Option.some.injEq, Addr.mk.injEq, and_true, true_and] at h'
    obtain ⟨_, rfl⟩ := h'
    exact ⟨h1, h2⟩
theorem OwnC.other (h : OwnC w base e g n cap c) {a : Addr} (ha : g ≠ a.block) (u : Value) : OwnC (w.setCell a u) base e g n cap c :=
  ownsRow_setCell_ne h (fun e => ha (by simpa [Value.ownBlock] using e)) u
theorem OwnC.exSet {a : World} (h : OwnC w base e g n cap c) (hb : a.heap.size ≤ base) (hx : Ex a w) (j : Nat) (u : Value) : Ex a (w.setCell ⟨g, j, none⟩ u) :=
  hx.setCell (p := ⟨g, j, none⟩) (Nat.le_trans hb h.lt.1) u
theorem OwnC.sl (h : OwnC w base e g n cap c) : Sl w (.slice (some ⟨g, 0, none⟩) n cap) n 1 (vs n c) := Sl.own h
theorem OwnC.isl {f : Nat → Int} (h : OwnC w base e g n cap (iv f)) : ISl w (.slice (some ⟨g, 0, none⟩) n cap) (il n f) := by
  unfold ISl
  rw [il_length, ints_il]
  exact h.sl
/-- What an own slice of at least one element is. -/
theorem ownC_of {v : Value} (h : w.ownsRow base e 1 v n (vs n c)) (hn : 1 ≤ n) : ∃ g cap, v = .slice (some ⟨g, 0, none⟩) n cap ∧ OwnC w base e g n cap c := by
  rcases h.2 with ⟨_, h0⟩ | ⟨g, cap, cur, rfl, _⟩
  · omega
  · exact ⟨g, cap, rfl, h⟩
end
end Go.Proofs.Ytgfdhclpffakfaa
