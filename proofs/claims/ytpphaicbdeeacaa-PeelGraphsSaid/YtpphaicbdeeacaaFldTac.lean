/- What the kernel's tables say. -/
import Derived.Test.YtpphaicbdeeacaaFldTab
namespace Go.Proofs.Ytpphaicbdeeacaa
set_option linter.unusedVariables false
set_option linter.unusedSimpArgs false

theorem tabC_get {p m : Nat} {b1 : List Bool} {D : List (List Bool)} : ∀ (T : List Nat) (s i t : Nat), tabC p m b1 D T s = true → T[i]? = some t → entC p m b1 D t (dgC p m (s + i)) = true
  | [], s, i, t, _, h => by simp at h
  | x :: T, s, i, t, h, hi => by
    have h1 : (match entC p m b1 D x (dgC p m s) with | true => tabC p m b1 D T (Nat.succ s) | false => false) = true := h
    cases he : entC p m b1 D x (dgC p m s) with
    | false => rw [he] at h1; cases h1
    | true =>
      rw [he] at h1
      cases i with
      | zero => simp at hi; subst hi; exact he
      | succ i =>
        have := tabC_get T (s + 1) i t h1 (by simpa using hi)
        rwa [show s + 1 + i = s + (i + 1) by omega] at this

theorem allB_mem {f : List Bool → Bool} : ∀ (l : List (List Bool)), allB f l = true → ∀ x ∈ l, f x = true
  | [], _, x, h => by cases h
  | y :: l, h, x, hx => by
    have h1 : (match f y with | true => allB f l | false => false) = true := h
    cases hf : f y with
    | false => rw [hf] at h1; cases h1
    | true =>
      rw [hf] at h1
      rcases List.mem_cons.1 hx with rfl | hx
      · exact hf
      · exact allB_mem l h1 x hx

theorem dgC_zero (p : Nat) : ∀ m, dgC p m 0 = List.replicate m 0
  | 0 => rfl
  | m + 1 => by
    show Nat.mod 0 p :: dgC p m (Nat.div 0 p) = _
    have h1 : Nat.mod 0 p = 0 := Nat.zero_mod p
    have h2 : Nat.div 0 p = 0 := Nat.zero_div p
    rw [h1, h2, dgC_zero p m]; rfl

theorem gnC_sound {p m g : Nat} {b1 : List Bool} {D : List (List Bool)} {low : List Nat} (hp : 2 ≤ p) (hm : 1 ≤ m) (hl : low.length = m) (hg : g < p ^ m) (h : gnC p m g b1 D low = true) :
    kpw p m (lf low) g (ofBits 0 b1) = 1 ∧ ∀ b ∈ D, kpw p m (lf low) g (ofBits 0 b) ≠ 1 := by
  unfold gnC at h
  rw [dgC_zero] at h
  have key := fun bs => pwC_eq hp hm hl g hg bs 0
  cases h1 : Nat.beq (pwC p m low (List.replicate m 0) g b1 1) 1 with
  | false => rw [h1] at h; cases h
  | true =>
    rw [h1] at h
    refine ⟨by rw [← key]; exact Nat.eq_of_beq_eq_true h1, fun b hb e => ?_⟩
    have h2 := allB_mem D h b hb
    rw [← key] at e
    have e' : pwC p m low (List.replicate m 0) g b 1 = 1 := e
    rw [e'] at h2
    simp at h2

theorem codC_zero {p : Nat} (hp : 1 ≤ p) : ∀ l : List Nat, codC p l = 0 → ∀ j, l.getD j 0 = 0
  | [], _, j => by simp
  | x :: l, h, j => by
    have h1 : x + p * codC p l = 0 := h
    have h2 : codC p l = 0 := by
      rcases Nat.eq_zero_or_pos (codC p l) with e | e
      · exact e
      · have := Nat.mul_le_mul hp e; omega
    cases j with
    | zero => simp; omega
    | succ j => simpa using codC_zero hp l h2 j

theorem dvC_sound {p d u : Nat} {low : List Nat} (hp : 2 ≤ p) (hd : 1 ≤ d) (h : dvC p d u low = true) : EqM p (ap d (dig p d u) (low.length + 1) (lf (low ++ [1])) one_) (fun _ => 0) := by
  unfold dvC at h
  have h0 := codC_zero (show 1 ≤ p by omega) _ (Nat.eq_of_beq_eq_true h)
  rw [dgC_zero] at h0
  obtain ⟨h1, h2⟩ := mulC_hor (p := p) (m := d) (low := dgC p d u) (a := dgC p d 1) (by omega) hd (dgC_len p d u) (dgC_len p d 1) rfl (low ++ [1])
  rw [lf_dgC, lf_dgC, dig_one hp hd] at h2
  intro j
  by_cases hj : j < d
  · have := h2 j hj
    rw [h0 j, hor_ap, List.length_append] at this
    rw [show low.length + 1 = low.length + [1].length from rfl, ← this]; rfl
  · have hs : Sup d one_ := fun i hi => by unfold one_; rw [if_neg (by omega)]
    rw [ap_sup hs _ _ j (by omega)]
end Go.Proofs.Ytpphaicbdeeacaa
