/- Arguments that are slices of bytes. -/
import Derived.Test.YtgfdhclpffakfaaPmOpen
namespace Go.Proofs.Ytgfdhclpffakfaa
set_option linter.unusedVariables false
set_option linter.unusedSimpArgs false
open Go.RowKit Go.ChangeShapes Go.WideShapes Go.ChangeAt

/-- A slice of bytes that reads as a list. -/
def BSl (w : World) (v : Value) (l : List Int) : Prop := ∃ a cap, v = .slice a l.length cap ∧ l.length ≤ cap ∧ cap ≤ maxLen ∧ (0 < l.length → ∃ b o, a = some ⟨b, o, none⟩ ∧ ∀ (i : Nat) (x : Int), l[i]? = some x → w.cell? ⟨b, o + i, none⟩ = some (.int .u8 x)) ∧ ∀ x ∈ l, 0 ≤ x ∧ x ≤ 255
theorem BSl.ex {w w' : World} {v : Value} {l : List Int} (h : BSl w v l) (hx : Ex w w') : BSl w' v l := by
  obtain ⟨a, cap, h1, h2, h3, h4, h5⟩ := h
  refine ⟨a, cap, h1, h2, h3, fun hn => ?_, h5⟩
  obtain ⟨b, o, h6, h7⟩ := h4 hn
  exact ⟨b, o, h6, fun i x hi => hx.cell (h7 i x hi)⟩
section
variable {H : Type} {enc : TypeId × Value → H} {W : World} {held : Bool}
theorem open_bytes {v : Value} {d : DataW H} {p : List MemPlace} (h : DataW.Trod enc Try.prog W 0 (fun _ => true) held 66 v d p) (hv : ∃ a l c, v = .slice a l c) : ∃ l, BSl W v l := by
  obtain ⟨fuel, hf⟩ := h
  obtain ⟨a, l, c, rfl⟩ := hv
  have hf : DataW.trod enc Try.prog W 0 (fun _ => true) held fuel 66 [.slice a l c] = some (d, p) := by simpa [Value.cells] using hf
  rcases open_ints Try.underlying66 Try.underlying5 (by kernel_rfl) hf with ⟨hcs, _⟩ | ⟨x, l, c, zs, hcs, _, hl, hm, hz, _, hcell, hwz⟩
  · simp at hcs
    obtain ⟨rfl, rfl, rfl⟩ := hcs
    exact ⟨[], none, 0, rfl, Nat.le_refl _, by unfold maxLen; omega, fun h => absurd h (Nat.lt_irrefl _), fun x h => by cases h⟩
  · simp at hcs
    obtain ⟨rfl, rfl, rfl⟩ := hcs
    simp only [if_true] at hz
    have hlen : (zs.take l).length = l := by rw [List.length_take]; omega
    refine ⟨zs.take l, some x, c, by rw [hlen], by rw [hlen]; exact hl, hm, fun hn => ?_, fun y hy => ?_⟩
    · rw [hlen] at hn
      have h0 := hcell 0 (by omega)
      have hx := spot_none h0 (.inl ⟨_, _, rfl⟩)
      have hx0 : (x.add 0) = x := by simp [Addr.add]
      rw [hx0] at hx
      refine ⟨x.block, x.off, congrArg some hx, fun i y hi => ?_⟩
      have hil : i < l := by have := (List.getElem?_eq_some_iff.1 hi).1; rwa [hlen] at this
      have h6 := hcell i (by omega)
      rw [hx, add_off] at h6
      rw [h6]
      rw [List.getElem?_take, if_pos hil] at hi
      rw [List.getD_eq_getElem?_getD, hi]; rfl
    · have := hwz y (List.mem_of_mem_take hy)
      have := bounds_u8 this
      omega
end
end Go.Proofs.Ytgfdhclpffakfaa
