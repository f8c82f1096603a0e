/- Plain: the order of a permutation is its least positive power that is the identity. -/
import Derived.Test.YtgfdhclpffakfaaPmO
namespace Go.Proofs.Ytgfdhclpffakfaa
set_option linter.unusedVariables false
set_option linter.unusedSimpArgs false

theorem lcm_all : ∀ (l : List Nat) (a : Nat), a ∣ l.foldl Nat.lcm a ∧ ∀ x ∈ l, x ∣ l.foldl Nat.lcm a
  | [], a => ⟨Nat.dvd_refl _, fun x h => by cases h⟩
  | y :: l, a => by
    obtain ⟨h1, h2⟩ := lcm_all l (Nat.lcm a y)
    refine ⟨Nat.dvd_trans (Nat.dvd_lcm_left a y) h1, fun x hx => ?_⟩
    rcases List.mem_cons.1 hx with e | e
    · rw [e]; exact Nat.dvd_trans (Nat.dvd_lcm_right a y) h1
    · exact h2 x e
theorem lcm_least : ∀ (l : List Nat) (a m : Nat), a ∣ m → (∀ x ∈ l, x ∣ m) → l.foldl Nat.lcm a ∣ m
  | [], a, m, h, _ => h
  | y :: l, a, m, h, hl => lcm_least l _ m (Nat.lcm_dvd h (hl y (by simp))) fun x hx => hl x (by simp [hx])
theorem per_dvd {n : Nat} {f : Nat → Nat} (hf : IsP n f) {i m : Nat} (hi : i < n) (h : pwP f m i = i) : perP n f i ∣ m := by
  obtain ⟨h1, h2, h3, h4⟩ := perP_facts hf hi
  rw [pwP_mod hf hi] at h
  apply Nat.dvd_of_mod_eq_zero
  apply Classical.byContradiction
  intro hn
  exact h4 _ (by omega) (Nat.mod_lt _ (by omega)) h
theorem pw_comm (f : Nat → Nat) (a b i : Nat) : pwP f a (pwP f b i) = pwP f b (pwP f a i) := by
  have h1 : pwP f (b + a) i = pwP f a (pwP f b i) := by rw [pwP_add]; rfl
  have h2 : pwP f (a + b) i = pwP f b (pwP f a i) := by rw [pwP_add]; rfl
  rw [← h1, ← h2, Nat.add_comm]
theorem per_orb {n : Nat} {f : Nat → Nat} (hf : IsP n f) {i j : Nat} (hi : i < n) (h : OrbP f i j) : perP n f i ∣ perP n f j := by
  have hj := OrbP.lt hf hi h
  obtain ⟨k, rfl⟩ := h
  refine per_dvd hf hi ?_
  have h1 := (perP_facts hf hj).2.2.1
  rw [pw_comm] at h1
  exact (isP_pw hf k).inj _ _ h1
/-- The least point of an orbit. -/
theorem orb_min {n : Nat} {f : Nat → Nat} (hf : IsP n f) : ∀ (b i : Nat), i ≤ b → i < n → ∃ j, OrbP f i j ∧ minP n f j = true := by
  intro b
  induction b with
  | zero =>
    intro i hi hn
    refine ⟨i, OrbP.refl f i, (minP_iff hf hn).2 fun y _ => by omega⟩
  | succ b ih =>
    intro i hi hn
    by_cases h : ∃ y, OrbP f i y ∧ y < i
    · obtain ⟨y, h1, h2⟩ := h
      obtain ⟨j, h3, h4⟩ := ih y (by omega) (OrbP.lt hf hn h1)
      exact ⟨j, h1.trans h3, h4⟩
    · refine ⟨i, OrbP.refl f i, (minP_iff hf hn).2 fun y hy => ?_⟩
      apply Classical.byContradiction
      intro hlt
      exact h ⟨y, hy, by omega⟩
theorem lens_mem {n : Nat} {f : Nat → Nat} {x : Nat} : x ∈ lensP n f ↔ ∃ i, i < n ∧ minP n f i = true ∧ 1 < perP n f i ∧ perP n f i = x := by
  unfold lensP
  constructor
  · intro h
    obtain ⟨c, hc, rfl⟩ := List.mem_map.1 h
    obtain ⟨i, h1, h2, h3, _, h4⟩ := mem_cycs hc
    exact ⟨i, h1, h2, h3, h4.symm⟩
  · rintro ⟨i, h1, h2, h3, rfl⟩
    refine List.mem_map.2 ⟨cycP n f i, ?_, by unfold cycP; simp⟩
    unfold cycsK
    refine List.mem_map.2 ⟨i, List.mem_filter.2 ⟨List.mem_range.2 h1, ?_⟩, rfl⟩
    rw [Bool.and_eq_true, decide_eq_true_eq]
    exact ⟨h2, h3⟩
theorem ord_pw {n : Nat} {f : Nat → Nat} (hf : IsP n f) : pwP f (lcmL (lensP n f)) = idP := by
  refine isP_ext (isP_pw hf _) (isP_id n) fun i hi => ?_
  show pwP f _ i = i
  have hd : perP n f i ∣ lcmL (lensP n f) := by
    obtain ⟨j, h1, h2⟩ := orb_min hf i i (Nat.le_refl _) hi
    have hj := OrbP.lt hf hi h1
    refine Nat.dvd_trans (per_orb hf hi h1) ?_
    by_cases h3 : 1 < perP n f j
    · exact (lcm_all _ 1).2 _ (lens_mem.2 ⟨j, hj, h2, h3, rfl⟩)
    · have := (perP_facts hf hj).1
      have h4 : perP n f j = 1 := by omega
      rw [h4]; exact Nat.one_dvd _
  obtain ⟨m, hm⟩ := hd
  rw [hm]
  exact pwP_mul_fix (perP_facts hf hi).2.2.1 m
theorem ord_least {n : Nat} {f : Nat → Nat} (hf : IsP n f) {m : Nat} (hm : 1 ≤ m) (h : pwP f m = idP) : lcmL (lensP n f) ≤ m := by
  refine Nat.le_of_dvd (by omega) (lcm_least _ 1 m (Nat.one_dvd _) fun x hx => ?_)
  obtain ⟨i, hi, _, _, rfl⟩ := lens_mem.1 hx
  exact per_dvd hf hi (by rw [h]; rfl)
theorem ord_pos {n : Nat} {f : Nat → Nat} : 1 ≤ lcmL (lensP n f) := by
  refine lcm_pos (fun x hx => ?_) 1 (Nat.le_refl _)
  obtain ⟨i, _, _, h, rfl⟩ := lens_mem.1 hx
  omega
theorem ordS_li {n : Nat} {f : Nat → Nat} (h1 : 1 ≤ n) (h2 : n ≤ 64) (hf : IsP n f) : ordS (li n f) = ((lcmL (lensP n f) : Int), 0) := by
  unfold ordS
  rw [pchk_li h1 h2 hf, if_neg (by decide), li_len, fnL_li hf]
theorem invS_li {n : Nat} {f : Nat → Nat} (h1 : 1 ≤ n) (h2 : n ≤ 64) (hf : IsP n f) : invS (li n f) = (li n (invP n f), 0) := by
  unfold invS
  rw [pchk_li h1 h2 hf, if_neg (by decide), li_len, fnL_li hf]
theorem cmpS_two {n : Nat} {f g : Nat → Nat} (h1 : 1 ≤ n) (h2 : n ≤ 64) (hf : IsP n f) (hg : IsP n g) : cmpS [li n f, li n g] = (li n (thenP f g), 0) := by
  have ha : allS ((([li n f, li n g] : List (List Int)).getD 0 []).length : Nat) [li n f, li n g] = 0 := by
    have hl : (([li n f, li n g] : List (List Int)).getD 0 []).length = n := li_len n f
    rw [hl]
    rw [allS_miss fun j s hs => by
      match j, hs with
      | 0, hs => simp at hs; subst hs; exact pchk_li h1 h2 hf
      | 1, hs => simp at hs; subst hs; exact pchk_li h1 h2 hg
      | j + 2, hs => simp at hs]
    rw [if_neg]
    rintro ⟨r, hr, h⟩
    simp at hr
    rcases hr with e | e <;> rw [e, li_len] at h <;> exact h rfl
  unfold cmpS
  rw [if_neg (by simp), ha, if_neg (by decide)]
  have hl : (([li n f, li n g] : List (List Int)).getD 0 []).length = n := li_len n f
  rw [hl]
  show (thL (thL (unL n) (li n f)) (li n g), (0 : Int)) = _
  unfold unL
  rw [thL_li (f := idP) (g := f) (fun i hi => hi), thL_li (f := thenP idP f) (g := g) (fun i hi => hf.lt i hi)]
  rfl
end Go.Proofs.Ytgfdhclpffakfaa
