/- The two checks of a field's description agree. -/
import Derived.Test.YtpphaicbdeeacaaFldTaf
import Derived.Test.YtpphaicbdeeacaaFldY
namespace Go.Proofs.Ytpphaicbdeeacaa
set_option linter.unusedVariables false
set_option linter.unusedSimpArgs false
open Go.RowKit

theorem lw_isD {p m : Nat} {ml : List Int} (h : FSh p m ml) : IsD p m (lw ml) := by
  have hp := h.p2
  refine ⟨fun j hj => ?_, fun j => ?_⟩
  · unfold lw
    rw [List.getD_eq_getElem?_getD, List.getElem?_eq_none (by have := h.len; split at this <;> omega)]; rfl
  · unfold lw
    rw [List.getD_eq_getElem?_getD]
    rcases hj : ml[j]? with _ | z
    · simp; omega
    · exact h.rng z (List.mem_of_getElem? hj)

theorem dvB_iff {p d : Nat} {low : Vc} {ml : List Int} (hl : ∀ j, d ≤ j → True) : dvB p d low ml = true ↔ EqM p (ap d low (ml.length + 1) (mon ml) one_) (fun _ => 0) ∨ (dvB p d low ml = true ∧ d = 0) := by
  unfold dvB
  rw [List.all_eq_true]
  constructor
  · intro h
    rcases Nat.eq_zero_or_pos d with e | e
    · exact .inr ⟨h, e⟩
    · refine .inl fun j => ?_
      by_cases hj : j < d
      · have := h j (List.mem_range.2 hj)
        simpa using this
      · have hs : Sup d one_ := fun i hi => by unfold one_; rw [if_neg (by omega)]
        rw [ap_sup hs _ _ j (by omega)]
  · rintro (h | ⟨h, _⟩)
    · intro j _
      have := h j
      simpa using this
    · exact h

theorem field_iff {p m : Nat} {ml : List Int} (h : FSh p m ml) (hpr : prB p = true) : IsF p m (lw ml) ↔ (m = 1 ∨ irB p ml = true) := by
  have hp := h.p2
  have hm := h.m1
  have hD := lw_isD h
  obtain ⟨v, hv⟩ : ∃ v, (cod p m (lw ml)).toNat = v := ⟨_, rfl⟩
  have hdv : dig p m v = lw ml := by rw [← hv]; exact dig_cod' (by omega) hD
  have hvq : v < p ^ m := by have := cod_rng hD.2 m; omega
  have hG := god_all hpr h.p256 hm h.m8 h.q hvq (fun e => by
    subst e
    have hl := h.len
    rw [if_pos rfl] at hl
    have : ml = [] := List.eq_nil_of_length_eq_zero hl
    rw [← hv, this]; simp [cod, lw])
  unfold GenOrDiv at hG
  rw [lf_dgC, hdv] at hG
  by_cases e1 : m = 1
  · constructor
    · intro _; exact .inl e1
    · intro _
      rcases hG with hG | ⟨d, u, h1, h2, _⟩
      · exact hG
      · omega
  · have hl := h.len
    rw [if_neg e1] at hl
    have hmon : lf (dgC p m v ++ [1]) = mon ml := by
      funext j
      have hj0 := congrFun hdv j
      unfold lf mon
      rw [hl, List.getD_eq_getElem?_getD]
      by_cases hj : j < m
      · rw [if_pos hj, List.getElem?_append_left (by rw [dgC_len]; exact hj)]
        have h2 := congrFun (lf_dgC p m v) j
        rw [hj0] at h2
        unfold lf at h2
        rw [List.getD_eq_getElem?_getD] at h2
        exact h2
      · rw [if_neg hj, List.getElem?_append_right (by rw [dgC_len]; omega), dgC_len]
        by_cases hj2 : j = m
        · subst hj2; simp
        · rw [if_neg hj2, List.getElem?_eq_none (by simp; omega)]; rfl
    rw [hmon] at hG
    constructor
    · intro hF
      right
      refine irB_yes fun d u h1 h2 => ?_
      rw [← Bool.not_eq_true]
      intro hdvB
      rcases (dvB_iff (fun _ _ => trivial)).1 hdvB with h3 | ⟨_, h3⟩
      · refine not_field (m := m) (d := d + 1) (low := dig p (d + 1) u) hp (by omega) (by omega) (dig_rng (by omega) _ _) ?_ hF
        intro t
        have h4 := h3 t
        rw [hl] at h4
        rw [← h4]
        dsimp only
        congr 1
        rw [ap]
        rw [ap_congr (c := mon ml) (d := lw ml) (n := m) (fun j hj => by unfold mon lw; rw [hl, if_pos hj])]
        rw [show mon ml m = 1 by unfold mon; rw [hl, if_neg (by omega), if_pos rfl]]
        dsimp only
        rw [Int.one_mul]
      · omega
    · rintro (e | hir)
      · exact absurd e e1
      · rcases hG with hG | ⟨d, u, h1, h2, h3, h4⟩
        · exact hG
        · exfalso
          obtain ⟨e, rfl⟩ : ∃ e, d = e + 1 := ⟨d - 1, by omega⟩
          rw [← hl] at h4 h2
          have := irB_no h2 h3 ((dvB_iff (fun _ _ => trivial)).2 (.inl h4))
          rw [this] at hir
          cases hir

theorem chk_iff (p m : Int) (ml : List Int) : chkS p m ml = 0 ↔ FldB p m ml := by
  unfold chkS
  constructor
  · intro h
    split at h
    · rename_i hc
      simp only [Bool.and_eq_true, Bool.or_eq_true, decide_eq_true_eq] at hc
      obtain ⟨h1, h2⟩ := hc
      obtain ⟨pn, mn, rfl, rfl, hf, hpr, _⟩ := shB_FSh h1
      refine ⟨pn, mn, rfl, rfl, hf, hpr, (field_iff hf hpr).2 ?_⟩
      rcases h2 with h2 | h2
      · left; omega
      · right; simpa using h2
    · cases h
  · rintro ⟨pn, mn, rfl, rfl, hf, hpr, hF⟩
    rw [if_pos]
    simp only [Bool.and_eq_true, Bool.or_eq_true, decide_eq_true_eq]
    refine ⟨(FSh_shB hf hpr).1, ?_⟩
    rcases (field_iff hf hpr).1 hF with h | h
    · left; omega
    · right; simpa using h
end Go.Proofs.Ytpphaicbdeeacaa
