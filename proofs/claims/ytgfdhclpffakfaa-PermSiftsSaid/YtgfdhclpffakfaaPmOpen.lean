/- What the arguments of a law look like: opened out of their readings. -/
import Derived.Test.YtgfdhclpffakfaaPmCd
import Derived.Lib.SmallJoins
import Derived.Deep.Matrix
import Derived.OpenShut
import Derived.ProofKit
import Derived.ChangeOld
namespace Go.Proofs.Ytgfdhclpffakfaa
set_option linter.unusedVariables false
set_option linter.unusedSimpArgs false
open Go.RowKit Go.ChangeShapes Go.WideShapes Go.ChangeAt

section
variable {H : Type} {enc : TypeId × Value → H} {W : World} {held : Bool}

theorem spot_none {x : Addr} {w : World} {u : Value} (h : w.cell? x = some u) (hu : (∃ k n, u = .int k n) ∨ ∃ a l c, u = .slice a l c) : x = ⟨x.block, x.off, none⟩ := by
  have hs : x.spot = none := by
    rcases hs : x.spot with _ | s
    · rfl
    · exfalso
      simp only [World.cell?, hs] at h
      split at h
      · rcases hu with ⟨k, n, rfl⟩ | ⟨a, l, c, rfl⟩ <;> simp at h
      · simp at h
  cases x; simp_all

theorem add_off (b o j : Nat) : (⟨b, o, none⟩ : Addr).add j = ⟨b, o + j, none⟩ := by unfold Addr.add; split <;> simp_all

theorem isl_cells {w : World} {a : Option Addr} {len cap : Nat} {zs : List Int} (h1 : len ≤ cap) (h2 : cap ≤ maxLen) (h3 : zs.length = cap) (h4 : a = none → cap = 0) (h5 : ∀ x, a = some x → ∀ i, i < cap → w.cell? (x.add i) = some (.int .i64 (zs.getD i 0))) :
    ISl w (.slice a len cap) (zs.take len) := by
  have hl : (zs.take len).length = len := by rw [List.length_take]; omega
  unfold ISl
  rw [hl]
  refine ⟨by rw [ints_length]; omega, a, cap, rfl, h1, h2, fun hn => ?_⟩
  rcases a with _ | x
  · have := h4 rfl; omega
  · have h0 := h5 x rfl 0 (by omega)
    have hx := spot_none h0 (.inl ⟨_, _, rfl⟩)
    have hx0 : (x.add 0) = x := by simp [Addr.add]
    rw [hx0] at hx
    refine ⟨x.block, x.off, congrArg some hx, fun j u hu => ?_⟩
    simp only [ints, List.getElem?_map, List.getElem?_take] at hu
    split at hu
    · have h6 := h5 x rfl j (by omega)
      rw [hx, add_off] at h6
      rw [h6]
      obtain ⟨y, hy, rfl⟩ := Option.map_eq_some_iff.1 hu
      rw [List.getD_eq_getElem?_getD, hy]; rfl
    · cases hu

theorem isl_trod {fuel : Nat} {v : Value} {y : DataW H × List MemPlace} (h : DataW.trod enc Try.prog W 0 (fun _ => true) held fuel 22 [v] = some y) : ∃ l, ISl W v l := by
  rcases open_ints Try.underlying22 Try.underlying3 (by kernel_rfl) h with ⟨hcs, _⟩ | ⟨x, l, c, zs, hcs, _, hl, hm, hz, _, hcell, hwz⟩
  · simp at hcs; subst hcs
    exact ⟨[], Sl.nil W 1⟩
  · simp at hcs; subst hcs
    simp only [if_true] at hz
    exact ⟨_, isl_cells hl hm hz (fun h => by cases h) (fun x' hx i hi => by injection hx with hx; subst hx; exact hcell i (by omega))⟩

theorem msl_trod {fuel : Nat} {v : Value} {y : DataW H × List MemPlace} (h : DataW.trod enc Try.prog W 0 (fun _ => true) held fuel 28 [v] = some y) : ∃ rows, MSl W v rows := by
  rcases Go.Deep.open_int_rows Try.underlying28 Try.underlying22 Try.underlying3 (by kernel_rfl) (by kernel_rfl) h with ⟨hcs, _⟩ | ⟨x, len, cap, A, L, C, Z, hcs, _, hl, hm, _, hr⟩
  · simp at hcs; subst hcs
    exact ⟨[], [], Sl.nil W 1, fun i r u hr => by simp at hr⟩
  · simp at hcs; subst hcs
    refine ⟨(List.range len).map fun r => (Z r).take (L r), (List.range len).map fun r => .slice (A r) (L r) (C r), ?_, fun i r u h1 h2 => ?_⟩
    · refine ⟨by simp, some x, cap, by simp, by simpa using hl, hm, fun hn => ?_⟩
      simp at hn
      have h0 := (hr 0 (by omega)).1
      have hx := spot_none h0 (.inr ⟨_, _, _, rfl⟩)
      have hx0 : (x.add 0) = x := by simp [Addr.add]
      rw [hx0] at hx
      refine ⟨x.block, x.off, congrArg some hx, fun j u hu => ?_⟩
      simp only [List.getElem?_map] at hu
      obtain ⟨k, hk, rfl⟩ := Option.map_eq_some_iff.1 hu
      have hj : j < len := by have := (List.getElem?_eq_some_iff.1 hk).1; simpa using this
      have e : k = j := by simp [hj] at hk; exact hk.symm
      subst e
      have := (hr k (by omega)).1
      rw [hx, add_off] at this
      exact this
    · have hi : i < len := by have := (List.getElem?_eq_some_iff.1 h1).1; simpa using this
      simp [hi] at h1 h2
      subst h1 h2
      obtain ⟨_, a1, a2, a3, _, a4, a5⟩ := hr i (by omega)
      exact isl_cells a1 a2 a3 a4 (fun x' hx j hj => (a5 x' hx).2 j hj)

theorem open_list {v : Value} {d : DataW H} {p : List MemPlace} (h : DataW.Trod enc Try.prog W 0 (fun _ => true) held 22 v d p) (hv : ∃ a l c, v = .slice a l c) : ∃ l, ISl W v l := by
  obtain ⟨fuel, hf⟩ := h
  obtain ⟨a, l, c, rfl⟩ := hv
  exact isl_trod (by simpa [Value.cells] using hf)
theorem open_rows {v : Value} {d : DataW H} {p : List MemPlace} (h : DataW.Trod enc Try.prog W 0 (fun _ => true) held 28 v d p) (hv : ∃ a l c, v = .slice a l c) : ∃ rows, MSl W v rows := by
  obtain ⟨fuel, hf⟩ := h
  obtain ⟨a, l, c, rfl⟩ := hv
  exact msl_trod (by simpa [Value.cells] using hf)
end
end Go.Proofs.Ytgfdhclpffakfaa
