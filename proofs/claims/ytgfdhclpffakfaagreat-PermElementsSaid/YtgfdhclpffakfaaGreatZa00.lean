/- Plain: permutations of the points below n as functions; powers, inverses, words in generators. -/
import Derived.Test.YtgfdhclpffakfaaGreatRows
namespace Go.Proofs.YtgfdhclpffakfaaGreat
set_option linter.unusedVariables false
set_option linter.unusedSimpArgs false

/-- An injective map of the numbers below n into themselves meets all of them. -/
theorem surj_of_inj : ∀ (n : Nat) (f : Nat → Nat), (∀ i, i < n → f i < n) → (∀ i j, i < n → j < n → f i = f j → i = j) → ∀ y, y < n → ∃ x, x < n ∧ f x = y
  | 0, f, _, _, y, hy => absurd hy (by omega)
  | n + 1, f, h1, h2, y, hy => by
    have hn := h1 n (by omega)
    by_cases hm : f n = n
    · by_cases hyn : y = n
      · exact ⟨n, by omega, by omega⟩
      · obtain ⟨x, hx, e⟩ := surj_of_inj n f (fun i hi => by
          have h3 := h1 i (by omega)
          have h4 : f i ≠ n := fun e => by
            have := h2 i n (by omega) (by omega) (by omega)
            omega
          omega) (fun i j hi hj e => h2 i j (by omega) (by omega) e) y (by omega)
        exact ⟨x, by omega, e⟩
    · have key := surj_of_inj n (fun i => if f i = n then f n else f i) (fun i hi => by
          split
          · omega
          · have := h1 i (by omega); omega) (fun i j hi hj e => by
          split at e <;> split at e
          · exact h2 i j (by omega) (by omega) (by omega)
          · have := h2 n j (by omega) (by omega) e; omega
          · have := h2 i n (by omega) (by omega) e; omega
          · exact h2 i j (by omega) (by omega) e)
      by_cases hy1 : y = f n
      · exact ⟨n, by omega, hy1.symm⟩
      · by_cases hyn : y = n
        · obtain ⟨x, hx, e⟩ := key (f n) (by omega)
          split at e
          · rename_i h; exact ⟨x, by omega, by omega⟩
          · have := h2 x n (by omega) (by omega) e; omega
        · obtain ⟨x, hx, e⟩ := key y (by omega)
          split at e
          · omega
          · exact ⟨x, by omega, e⟩
/-- A permutation of the points below n, as a function that fixes all others. -/
structure IsP (n : Nat) (f : Nat → Nat) : Prop where
  lt : ∀ i, i < n → f i < n
  off : ∀ i, n ≤ i → f i = i
  inj : ∀ i j, f i = f j → i = j
def idP : Nat → Nat := fun i => i
def thenP (f g : Nat → Nat) : Nat → Nat := fun i => g (f i)
/-- The inverse, by a search. -/
def invP (n : Nat) (f : Nat → Nat) : Nat → Nat := fun j => if j < n then ((List.range n).find? fun i => f i == j).getD 0 else j
theorem isP_id (n : Nat) : IsP n idP := ⟨fun _ h => h, fun _ _ => rfl, fun _ _ h => h⟩
theorem IsP.of_inj {n : Nat} {f : Nat → Nat} (h1 : ∀ i, i < n → f i < n) (h2 : ∀ i, n ≤ i → f i = i) (h3 : ∀ i j, i < n → j < n → f i = f j → i = j) : IsP n f :=
  ⟨h1, h2, fun i j e => by
    by_cases hi : i < n <;> by_cases hj : j < n
    · exact h3 i j hi hj e
    · have := h1 i hi; have := h2 j (by omega); omega
    · have := h1 j hj; have := h2 i (by omega); omega
    · have := h2 i (by omega); have := h2 j (by omega); omega⟩
theorem IsP.comp {n : Nat} {f g : Nat → Nat} (hf : IsP n f) (hg : IsP n g) : IsP n (thenP f g) :=
  ⟨fun i hi => hg.lt _ (hf.lt i hi), fun i hi => by show g (f i) = i; rw [hf.off i hi, hg.off i hi], fun i j e => hf.inj i j (hg.inj _ _ e)⟩
theorem IsP.surj {n : Nat} {f : Nat → Nat} (hf : IsP n f) {y : Nat} (hy : y < n) : ∃ x, x < n ∧ f x = y :=
  surj_of_inj n f hf.lt (fun i j _ _ e => hf.inj i j e) y hy
theorem IsP.lt_iff {n : Nat} {f : Nat → Nat} (hf : IsP n f) (i : Nat) : f i < n ↔ i < n :=
  ⟨fun h => by
    by_cases hi : i < n
    · exact hi
    · have := hf.off i (by omega); omega, hf.lt i⟩
theorem IsP.inv_l {n : Nat} {f : Nat → Nat} (hf : IsP n f) (i : Nat) : invP n f (f i) = i := by
  unfold invP
  by_cases hi : i < n
  · rw [if_pos (hf.lt i hi)]
    cases h : (List.range n).find? fun k => f k == f i with
    | none =>
      have := List.find?_eq_none.1 h i (List.mem_range.2 hi)
      simp at this
    | some k =>
      have := List.find?_some h
      exact hf.inj k i (by simpa using this)
  · rw [if_neg (by rw [hf.off i (by omega)]; exact hi), hf.off i (by omega)]
theorem IsP.inv_r {n : Nat} {f : Nat → Nat} (hf : IsP n f) (j : Nat) : f (invP n f j) = j := by
  by_cases hj : j < n
  · obtain ⟨x, hx, rfl⟩ := hf.surj hj
    rw [hf.inv_l]
  · have h1 : invP n f j = j := by unfold invP; rw [if_neg hj]
    rw [h1, hf.off j (by omega)]
theorem IsP.inv {n : Nat} {f : Nat → Nat} (hf : IsP n f) : IsP n (invP n f) :=
  ⟨fun i hi => by
      have := (hf.lt_iff (invP n f i)).1 (by rw [hf.inv_r]; exact hi)
      exact this, fun i hi => by unfold invP; rw [if_neg (by omega)], fun i j e => by
      have := congrArg f e
      rwa [hf.inv_r, hf.inv_r] at this⟩
theorem thenP_assoc (f g h : Nat → Nat) : thenP (thenP f g) h = thenP f (thenP g h) := rfl
theorem IsP.then_inv {n : Nat} {f : Nat → Nat} (hf : IsP n f) : thenP f (invP n f) = idP := funext fun i => hf.inv_l i
theorem IsP.inv_then {n : Nat} {f : Nat → Nat} (hf : IsP n f) : thenP (invP n f) f = idP := funext fun i => hf.inv_r i
theorem IsP.inv_unique {n : Nat} {f g : Nat → Nat} (hf : IsP n f) (h : thenP f g = idP) : g = invP n f := by
  have : thenP (invP n f) (thenP f g) = thenP (invP n f) idP := by rw [h]
  rw [← thenP_assoc, hf.inv_then] at this
  exact this
theorem invP_id (n : Nat) : invP n idP = idP := ((isP_id n).inv_unique rfl).symm
theorem IsP.cancel {n : Nat} {f r : Nat → Nat} (hr : IsP n r) : thenP (thenP f (invP n r)) r = f := by
  rw [thenP_assoc, hr.inv_then]; rfl
theorem isP_ext {n : Nat} {f g : Nat → Nat} (hf : IsP n f) (hg : IsP n g) (h : ∀ i, i < n → f i = g i) : f = g :=
  funext fun i => by
    by_cases hi : i < n
    · exact h i hi
    · rw [hf.off i (by omega), hg.off i (by omega)]
/-- The power of a function. -/
def pwP (f : Nat → Nat) : Nat → Nat → Nat
  | 0 => idP
  | k + 1 => thenP (pwP f k) f
theorem pwP_add (f : Nat → Nat) (a b : Nat) : pwP f (a + b) = thenP (pwP f a) (pwP f b) := by
  induction b with
  | zero => rfl
  | succ b ih => show thenP (pwP f (a + b)) f = _; rw [ih]; rfl
theorem isP_pw {n : Nat} {f : Nat → Nat} (hf : IsP n f) : ∀ k, IsP n (pwP f k)
  | 0 => isP_id n
  | k + 1 => (isP_pw hf k).comp hf
theorem pwP_mul_fix {f : Nat → Nat} {i k : Nat} (h : pwP f k i = i) : ∀ m, pwP f (k * m) i = i
  | 0 => rfl
  | m + 1 => by
    rw [Nat.mul_succ, pwP_add]
    show pwP f k (pwP f (k * m) i) = i
    rw [pwP_mul_fix h m, h]
/-- Each point comes back. -/
theorem IsP.back {n : Nat} {f : Nat → Nat} (hf : IsP n f) {i : Nat} (hi : i < n) : ∃ k, 1 ≤ k ∧ k ≤ n ∧ pwP f k i = i := by
  have hne : ¬ ∀ a b, a < n + 1 → b < n + 1 → pwP f a i = pwP f b i → a = b := fun hinj => by
    obtain ⟨x, hx, e⟩ := surj_of_inj (n + 1) (fun a => pwP f a i) (fun a _ => by have := (isP_pw hf a).lt i hi; omega) hinj n (by omega)
    have := (isP_pw hf x).lt i hi
    omega
  have key : ∃ a b, a < b ∧ b < n + 1 ∧ pwP f a i = pwP f b i := by
    apply Classical.byContradiction
    intro hno
    refine hne fun a b ha hb e => ?_
    apply Classical.byContradiction
    intro hab
    rcases Nat.lt_or_gt_of_ne hab with h | h
    · exact hno ⟨a, b, h, hb, e⟩
    · exact hno ⟨b, a, h, ha, e.symm⟩
  obtain ⟨a, b, hab, hb, e⟩ := key
  refine ⟨b - a, by omega, by omega, ?_⟩
  have h1 : pwP f b = thenP (pwP f (b - a)) (pwP f a) := by rw [← pwP_add]; congr 1; omega
  rw [h1] at e
  exact ((isP_pw hf a).inj _ _ e).symm
def facP : Nat → Nat
  | 0 => 1
  | k + 1 => (k + 1) * facP k
theorem facP_pos : ∀ k, 1 ≤ facP k
  | 0 => Nat.le_refl _
  | k + 1 => Nat.mul_pos (by omega) (facP_pos k)
theorem facP_dvd : ∀ n k, 1 ≤ k → k ≤ n → k ∣ facP n
  | 0, k, h1, h2 => by omega
  | n + 1, k, h1, h2 => by
    by_cases h : k = n + 1
    · subst h; exact Nat.dvd_mul_right _ _
    · exact Nat.dvd_trans (facP_dvd n k h1 (by omega)) (Nat.dvd_mul_left _ _)
theorem IsP.pw_fac {n : Nat} {f : Nat → Nat} (hf : IsP n f) : pwP f (facP n) = idP := by
  refine isP_ext (isP_pw hf _) (isP_id n) fun i hi => ?_
  obtain ⟨k, h1, h2, h3⟩ := hf.back hi
  obtain ⟨m, hm⟩ := facP_dvd n k h1 h2
  rw [hm]
  exact pwP_mul_fix h3 m
/-- A word in generators. -/
inductive Gn (S : List (Nat → Nat)) : (Nat → Nat) → Prop
  | one : Gn S idP
  | step {f g : Nat → Nat} : Gn S f → g ∈ S → Gn S (thenP f g)
/-- A group of permutations. -/
structure Grp (n : Nat) (H : (Nat → Nat) → Prop) : Prop where
  one : H idP
  mul : ∀ f g, H f → H g → H (thenP f g)
  inv : ∀ f, H f → H (invP n f)
  isP : ∀ f, H f → IsP n f
theorem Gn.mul {S : List (Nat → Nat)} {f g : Nat → Nat} (hf : Gn S f) (hg : Gn S g) : Gn S (thenP f g) := by
  induction hg with
  | one => exact hf
  | step _ h ih => exact ih.step h
theorem Gn.of {S : List (Nat → Nat)} {g : Nat → Nat} (h : g ∈ S) : Gn S g := Gn.one.step h
theorem Gn.isP {n : Nat} {S : List (Nat → Nat)} (hS : ∀ s ∈ S, IsP n s) {f : Nat → Nat} (h : Gn S f) : IsP n f := by
  induction h with
  | one => exact isP_id n
  | step _ h ih => exact ih.comp (hS _ h)
theorem Gn.pw {S : List (Nat → Nat)} {f : Nat → Nat} (h : Gn S f) : ∀ k, Gn S (pwP f k)
  | 0 => Gn.one
  | k + 1 => (h.pw k).mul h
theorem Gn.inv {n : Nat} {S : List (Nat → Nat)} (hS : ∀ s ∈ S, IsP n s) {f : Nat → Nat} (h : Gn S f) : Gn S (invP n f) := by
  have hf := h.isP hS
  have h1 : thenP f (pwP f (facP n - 1)) = idP := by
    have : pwP f (1 + (facP n - 1)) = idP := by
      rw [show 1 + (facP n - 1) = facP n from by have := facP_pos n; omega]; exact hf.pw_fac
    rw [pwP_add] at this
    exact this
  rw [← hf.inv_unique h1]
  exact h.pw _
theorem Gn.grp {n : Nat} {S : List (Nat → Nat)} (hS : ∀ s ∈ S, IsP n s) : Grp n (Gn S) :=
  ⟨.one, fun _ _ => .mul, fun _ => .inv hS, fun _ h => Gn.isP hS h⟩
theorem Gn.mono {S T : List (Nat → Nat)} (hS : ∀ s ∈ S, Gn T s) {f : Nat → Nat} (h : Gn S f) : Gn T f := by
  induction h with
  | one => exact .one
  | step _ h ih => exact ih.mul (hS _ h)
/-- f fixes all points below b. -/
def FixP (b : Nat) (f : Nat → Nat) : Prop := ∀ i, i < b → f i = i
theorem fix_id (b : Nat) : FixP b idP := fun _ _ => rfl
theorem FixP.comp {b : Nat} {f g : Nat → Nat} (hf : FixP b f) (hg : FixP b g) : FixP b (thenP f g) := fun i hi => by
  show g (f i) = i; rw [hf i hi, hg i hi]
theorem FixP.inv {n b : Nat} {f : Nat → Nat} (hP : IsP n f) (hf : FixP b f) : FixP b (invP n f) := fun i hi => by
  have := hP.inv_l i
  rw [hf i hi] at this
  exact this
theorem FixP.all {n : Nat} {f : Nat → Nat} (hP : IsP n f) (hf : FixP n f) : f = idP := isP_ext hP (isP_id n) hf
theorem FixP.ge {n b : Nat} {f : Nat → Nat} (hP : IsP n f) (hf : FixP b f) : b ≤ f b := by
  apply Classical.byContradiction
  intro h
  have h1 := hf (f b) (by omega)
  have := hP.inj _ _ h1
  omega
theorem FixP.div {n b : Nat} {f r : Nat → Nat} (hr : IsP n r) (hf : FixP b f) (hrf : FixP b r) (e : r b = f b) : FixP (b + 1) (thenP f (invP n r)) := fun i hi => by
  by_cases h : i = b
  · subst h; show invP n r (f i) = i; rw [← e]; exact hr.inv_l i
  · exact FixP.comp hf (FixP.inv hr hrf) i (by omega)
end Go.Proofs.YtgfdhclpffakfaaGreat
