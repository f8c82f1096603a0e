/- Plain: what peeling gives on a word that satisfies all rows, with any entries at the erased positions. -/
import Derived.Test.YtpphaicbdeeacaaPeelHJ
import Derived.Test.YtpphaicbdeeacaaPeelV
namespace Go.Proofs.Ytpphaicbdeeacaa
set_option linter.unusedVariables false
set_option linter.unusedSimpArgs false
open Go.RowKit

theorem il_congr {N : Nat} {f g : Nat → Int} (h : ∀ j, j < N → f j = g j) : il N f = il N g := by
  apply List.ext_getElem?
  intro j
  by_cases hj : j < N
  · rw [il_get hj, il_get hj, h j hj]
  · rw [List.getElem?_eq_none (by rw [il_len]; omega), List.getElem?_eq_none (by rw [il_len]; omega)]
theorem il_getD {N j : Nat} (h : j < N) (f : Nat → Int) : (il N f).getD j 0 = f j := by
  rw [List.getD_eq_getElem?_getD, il_get h]; rfl
theorem vecF_far {p m N : Nat} {ml x : List Int} {rows : List (List Int)} (hr : ∀ (i : Nat) (r : List Int), rows[i]? = some r → r.length = N) {j : Nat} (hj : N ≤ j) : ∀ k, vecF p m ml x rows k j = 0
  | 0 => rfl
  | k + 1 => by
    have ih := vecF_far (p := p) (m := m) (ml := ml) (x := x) hr hj k
    have h0 : rowsF rows k j = 0 := by
      unfold rowsF
      rw [List.getD_eq_getElem?_getD (l := rows)]
      cases h : rows[k]? with
      | none => rfl
      | some r =>
        have := hr k r h
        show r.getD j 0 = 0
        rw [List.getD_eq_getElem?_getD, List.getElem?_eq_none (by omega)]; rfl
    unfold vecF
    split
    · exact ih
    · unfold addF; rw [if_pos h0]; exact ih
/-- Entries count only where the row is not zero. -/
theorem dt_congr0 {p m N : Nat} {ml : List Int} (hp : 2 ≤ p) {f x x' : Nat → Int} (h : ∀ j, j < N → f j ≠ 0 → x j = x' j) : dt p m ml N f x = dt p m ml N f x' := by
  have key : ∀ n, n ≤ N → dtK p m ml N f x n = dtK p m ml N f x' n := fun n => by
    induction n with
    | zero => intro _; rw [dtK_zero, dtK_zero]
    | succ n ih =>
      intro hn
      rw [dtK_succ _ _ (by omega), dtK_succ _ _ (by omega), ih (by omega)]
      by_cases h0 : f n = 0
      · rw [h0, kin_zero, kmul_zero (by omega), kmul_zero (by omega)]
      · rw [h n (by omega) h0]
  rw [← dtK_all, ← dtK_all, key N (Nat.le_refl _)]
/-- The word with other entries at the first k listed positions. -/
def mixK (x : Nat → Int) (er l2 : List Int) (k : Nat) (j : Nat) : Int := if (j : Int) ∈ er.take k then l2.getD j 0 else x j
theorem mixK_zero (x : Nat → Int) (er l2 : List Int) : mixK x er l2 0 = x := by funext j; unfold mixK; simp
theorem mixK_succ {x : Nat → Int} {er l2 : List Int} {k X : Nat} (h : er[k]? = some (X : Int)) : mixK x er l2 (k + 1) = upd (mixK x er l2 k) X (l2.getD X 0) := by
  funext j
  unfold upd mixK
  rw [List.take_add_one, h]
  by_cases e : j = X
  · subst e; simp
  · have : ¬ ((j : Int) = (X : Int)) := by omega
    simp [e, this]
theorem mixK_all (x : Nat → Int) (er l2 : List Int) (j : Nat) : mixK x er l2 er.length j = if (j : Int) ∈ er then l2.getD j 0 else x j := by
  unfold mixK; rw [List.take_length]
/-- The law behind the walk. -/
theorem recovers {p m N : Nat} {ml : List Int} {rows : List (List Int)} {x : Nat → Int} {er l2 Y L : List Int} {e : Int} (hfl : FldB p m ml) (hmk : mchkS (p ^ m) N rows = 0) (hN1 : 1 ≤ N) (hN : N ≤ 64)
    (hx : ∀ j, 0 ≤ x j ∧ x j < ((p ^ m : Nat) : Int)) (hfar : ∀ j, N ≤ j → x j = 0) (hs : ∀ r ∈ rows, kdot p m ml r (il N x) 0 = 0)
    (her : risB N er = true) (hl2 : l2.length = N) (he2 : entS (p ^ m) l2 = 0)
    (h : PeelS p m ml N rows (il N (mixK x er l2 er.length)) er Y L e) :
    e = 0 ∧ Y.length = N ∧ risB N L = true ∧ (∀ (k : Nat) (X : Int), L[k]? = some X → Y.getD X.toNat 0 = 0) ∧ Y = il N (x0F (il N x) L) := by
  have hff : FSh p m ml ∧ IsF p m (lw ml) := by
    obtain ⟨pn', mn', e1, e2, hh, _, hF⟩ := hfl
    have h1 : pn' = p := by omega
    have h2 : mn' = m := by omega
    subst h1 h2
    exact ⟨hh, hF⟩
  obtain ⟨s1, s2, s3, s4⟩ := mchk_shape hmk
  have hp := hff.1.p2
  have hm := hff.1.m1
  have hrl : ∀ r ∈ rows, r.length = N ∧ entS (p ^ m) r = 0 := fun r hr => by have := s4 r hr; exact ⟨by omega, this.2⟩
  have hck : ChkOut p m ml N rows 0 := .inl ⟨p, m, rfl, rfl, hfl, hmk.symm⟩
  obtain ⟨V, gr, ge, hg, ⟨h0, _⟩ | ⟨_, pn, mn, N', e1, e2, e3, _, _, _, _, _, hb⟩⟩ := h
  · exfalso
    obtain ⟨ec, hec, ⟨h1, _⟩ | ⟨_, h1, _⟩ | ⟨_, _, _, _, _, h1⟩⟩ := hg
    · exact h1 (hec.unique hck)
    · omega
    · exact h0 h1
  · have e1 : pn = p := by omega
    have e2 : mn = m := by omega
    have e3 : N' = N := by omega
    subst e1 e2 e3
    have hq : ∀ j, 0 ≤ mixK x er l2 er.length j ∧ mixK x er l2 er.length j < ((pn ^ mn : Nat) : Int) := fun j => by
      rw [mixK_all]
      split
      · rw [List.getD_eq_getElem?_getD]
        cases h : l2[j]? with
        | none =>
          show 0 ≤ (0 : Int) ∧ (0 : Int) < _
          have := hx 0; omega
        | some y => exact entS_rng he2 y (List.mem_of_getElem? h)
      · exact hx j
    rcases hb with ⟨h1, _⟩ | ⟨_, h1, _⟩ | ⟨_, _, h1, _⟩ | ⟨_, _, _, x', f, hw, hb⟩
    · exact absurd (il_len _ _) h1
    · refine absurd (entS_of fun y hy => ?_) h1
      obtain ⟨j, hj, rfl⟩ := il_mem hy
      exact hq j
    · rw [her] at h1; cases h1
    · obtain ⟨hA, hB⟩ := hw.follow hp hm hff.2 hrl hx (fun r hr _ => hs r hr) (fun j hj => by
        have hj' : ¬ (j : Int) ∈ er := of_decide_eq_false hj
        unfold x0F
        rw [if_neg hj']
        by_cases hjN : j < N'
        · rw [il_getD hjN, mixK_all, if_neg hj']
        · rw [hfar j (by omega), List.getD_eq_getElem?_getD, List.getElem?_eq_none (by rw [il_len]; omega)]; rfl) (fun j hj => by
        have hj' : (j : Int) ∈ er := of_decide_eq_true hj
        unfold x0F
        rw [if_pos hj'])
      have hfail : failB pn mn ml N' rows f x' = false := by
        unfold failB
        rw [List.any_eq_false]
        intro r hr hc
        rw [Bool.and_eq_true] at hc
        obtain ⟨hc1, hc2⟩ := hc
        have hin : inn f (supp r) = [] := List.isEmpty_iff.1 hc1
        have key : kdot pn mn ml r (il N' x') 0 = kdot pn mn ml r (il N' x) 0 := by
          obtain ⟨i, hi, e⟩ := List.getElem_of_mem hr
          have hri : rows[i]? = some r := by rw [List.getElem?_eq_getElem hi, e]
          have h3 := dt_congr0 (p := pn) (m := mn) (ml := ml) (N := N') hp (f := rowsF rows i) (x := x') (x' := x) fun j hj hne => by
            refine (hA j ?_).symm
            cases hf : f j with
            | false => rfl
            | true =>
              exfalso
              have hrj : rowsF rows i j = r.getD j 0 := by
                unfold rowsF; rw [List.getD_eq_getElem?_getD (l := rows), hri]; rfl
              rw [hrj] at hne
              have : (j : Int) ∈ inn f (supp r) := List.mem_filter.2 ⟨by
                unfold supp suppK
                exact mem_lft.2 ⟨by have := (hrl r hr).1; omega, decide_eq_true hne⟩, by rw [Int.toNat_natCast]; exact hf⟩
              rw [hin] at this
              cases this
          unfold dt at h3
          rw [rowsF_il hri (hrl r hr).1] at h3
          exact h3
        rw [key, hs r hr] at hc2
        simp at hc2
      rcases hb with ⟨h1, _⟩ | ⟨_, rfl, rfl, rfl⟩
      · rw [hfail] at h1; cases h1
      · refine ⟨rfl, il_len _ _, risB_lft _ _, fun k X hX => ?_, il_congr fun j hj => ?_⟩
        · have hmem := List.mem_of_getElem? hX
          obtain ⟨X', rfl⟩ : ∃ n : Nat, X = n := by
            have := risB_rng (risB_lft N' f) k X hX
            exact ⟨X.toNat, by omega⟩
          obtain ⟨h1, h2⟩ := mem_lft.1 hmem
          rw [Int.toNat_natCast, il_getD h1]
          exact hB X' h2
        · unfold x0F
          by_cases hf : f j = true
          · rw [if_pos (mem_lft.2 ⟨hj, hf⟩)]; exact hB j hf
          · rw [if_neg (fun h => hf (mem_lft.1 h).2), il_getD hj]
            exact (hA j (by simpa using hf)).symm
end Go.Proofs.Ytpphaicbdeeacaa
