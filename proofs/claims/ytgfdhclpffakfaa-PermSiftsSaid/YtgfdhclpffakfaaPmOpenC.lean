/- An argument that is a chain: opened out of its reading. -/
import Derived.Test.YtgfdhclpffakfaaPmOpen
import Derived.Deep.Slices
namespace Go.Proofs.Ytgfdhclpffakfaa
set_option linter.unusedVariables false
set_option linter.unusedSimpArgs false
open Go.RowKit Go.ChangeShapes Go.WideShapes Go.ChangeAt

section
variable {H : Type} {enc : TypeId × Value → H} {W : World} {held : Bool}
set_option maxRecDepth 100000 in
theorem lsl_trod {fuel : Nat} {v : Value} {y : DataW H × List MemPlace} (h : DataW.trod enc Try.prog W 0 (fun _ => true) held fuel 44 [v] = some y) : ∃ L, LSl W v L := by
  rcases Go.Deep.open_slice Try.underlying44 h with ⟨hcs, _⟩ | ⟨x, len, cap, m, n, D, Pl, hcs, _, hl, hm, hmm, _, hr⟩
  · simp at hcs; subst hcs
    exact ⟨[], LSl.nil W⟩
  · simp at hcs; subst hcs
    simp only [if_true] at hmm
    subst hmm
    rw [show Try.prog.cellsOf 74 = 3 by kernel_rfl] at hr
    have key : ∀ i, i < len → ∃ q : Lv × Value × Value, W.cell? (x.add (i * 3)) = some (.int .i64 q.1.pt) ∧ W.cell? (x.add (i * 3 + 1)) = some q.2.1 ∧ W.cell? (x.add (i * 3 + 2)) = some q.2.2 ∧ ISl W q.2.1 q.1.orb ∧ MSl W q.2.2 q.1.reps := fun i hi => by
      obtain ⟨cs', h1, h2⟩ := hr i (by omega)
      obtain ⟨_, hlen, hcell⟩ := World.cells?_some h1
      obtain ⟨xs, k, _, _, _, hxl, hf⟩ := DataW.trod_struct Try.underlying74 h2
      match xs, hxl, cs', hlen with
      | [y0, y1, y2], _, [v0, v1, v2], _ =>
        have g0 := hf 0 _ rfl
        have g1 := hf 1 _ rfl
        have g2 := hf 2 _ rfl
        simp [show Try.prog.cellsOf 3 = 1 by kernel_rfl, show Try.prog.cellsOf 22 = 1 by kernel_rfl, show Try.prog.cellsOf 28 = 1 by kernel_rfl] at g0 g1 g2
        have e0 := hcell 0 (by omega)
        have e1 := hcell 1 (by omega)
        have e2 := hcell 2 (by omega)
        rw [Go.Deep.add_add] at e0 e1 e2
        obtain ⟨p, ep, _, _⟩ := DataW.trod_int Try.underlying3 g0
        simp at ep
        subst ep
        obtain ⟨l, hl⟩ := isl_trod g1
        obtain ⟨rows, hrw⟩ := msl_trod g2
        exact ⟨(⟨p, l, rows⟩, v1, v2), by simpa using e0, by simpa using e1, by simpa using e2, hl, hrw⟩
    haveI : Inhabited (Lv × Value × Value) := ⟨(⟨0, [], []⟩, .bool false, .bool false)⟩
    obtain ⟨q, hq⟩ := Go.Deep.choose_lt key
    have hL : ((List.range len).map fun i => (q i).1).length = len := by simp
    have hO : ((List.range len).map fun i => ((q i).2.1, (q i).2.2)).length = len := by simp
    refine ⟨(List.range len).map fun i => (q i).1, (List.range len).map fun i => ((q i).2.1, (q i).2.2), by rw [hL, hO], ⟨by rw [lvC_len _ _ (by rw [hL, hO])], some x, m, by rw [hL], by rw [hL]; exact hl, hm, fun hn => ?_⟩, fun i l o h1 h2 => ?_⟩
    · rw [hL] at hn
      have h0 := (hq 0 hn).1
      have hx := spot_none h0 (.inl ⟨_, _, rfl⟩)
      have hx0 : (x.add (0 * 3)) = x := by simp [Addr.add]
      rw [hx0] at hx
      refine ⟨x.block, x.off, congrArg some hx, fun j u hu => ?_⟩
      have hj : j < len * 3 := by
        have := (List.getElem?_eq_some_iff.1 hu).1
        rw [lvC_len _ _ (by rw [hL, hO]), hL] at this
        exact this
      obtain ⟨i, r, hr3, rfl⟩ : ∃ i r, r < 3 ∧ j = 3 * i + r := ⟨j / 3, j % 3, Nat.mod_lt _ (by omega), by omega⟩
      have hi : i < len := by omega
      obtain ⟨k0, k1, k2, _, _⟩ := hq i hi
      rw [hx, add_off] at k0 k1 k2
      obtain ⟨g1, g2, g3⟩ := lvC_get ((List.range len).map fun i => (q i).1) ((List.range len).map fun i => ((q i).2.1, (q i).2.2)) i (q i).1 ((q i).2.1, (q i).2.2) (by simp [hi]) (by simp [hi])
      match r, hr3 with
      | 0, _ => rw [Nat.add_zero, g1] at hu; rw [Nat.add_zero, Nat.mul_comm, ← hu]; exact k0
      | 1, _ => rw [g2] at hu; rw [Nat.mul_comm, ← hu]; exact k1
      | 2, _ => rw [g3] at hu; rw [Nat.mul_comm, ← hu]; exact k2
    · have hi : i < len := by have := (List.getElem?_eq_some_iff.1 h1).1; simpa using this
      simp [hi] at h1 h2
      subst h1 h2
      exact ⟨(hq i hi).2.2.2.1, (hq i hi).2.2.2.2⟩
set_option maxRecDepth 100000 in
theorem open_chain {r : Reach} {b0 : Nat} {v : Value} {d : DataW H} {p : List MemPlace} (hv : Value.okWide Try.prog W r b0 46 v) (h : DataW.Trod enc Try.prog W 0 (fun _ => true) held 46 v d p) :
    ∃ (c : Int) (u : Value) (L : List Lv), v = .agg #[.int .i64 c, u] ∧ LSl W u L ∧ -9223372036854775808 ≤ c ∧ c ≤ 9223372036854775807 := by
  obtain ⟨v0, v1, y0, y1, n, rfl, _, _, h0, h1⟩ := Go.Joins.open_agg2 Try.underlying46 (by kernel_rfl) (by kernel_rfl) hv h
  obtain ⟨P, e0, _, hw⟩ := DataW.trod_int Try.underlying3 h0
  obtain ⟨l, hl⟩ := lsl_trod h1
  simp at e0
  exact ⟨P, v1, l, by rw [e0], hl, (wf_i64_rng hw).1, (wf_i64_rng hw).2⟩
end
end Go.Proofs.Ytgfdhclpffakfaa
