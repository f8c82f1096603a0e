/- Plain mathematics: prime factors. -/
import Derived.Test.YtdnmhjpeklaijaaNumM
namespace Go.Proofs.Ytdnmhjpeklaijaa
set_option linter.unusedVariables false
set_option linter.unusedSimpArgs false

/-- p is its own least divisor. -/
def IsP (p : Nat) : Prop := 2 ≤ p ∧ ld p = p

theorem IsP.noDiv {p : Nat} (h : IsP p) : NoDiv p p := by
  have := (ld_least h.1).2.2; rw [h.2] at this; exact this

theorem ld_isP {n : Nat} (h : 2 ≤ n) : IsP (ld n) := by
  obtain ⟨h1, h2, h3⟩ := ld_least h
  refine ⟨h1, ld_eq h1 ⟨h1, Nat.mod_self _, fun d hd hdl hm => ?_⟩⟩
  exact h3 d hd hdl (Nat.mod_eq_zero_of_dvd (Nat.dvd_trans (Nat.dvd_of_mod_eq_zero hm) (Nat.dvd_of_mod_eq_zero h2)))

/-- A prime that does not divide x is coprime to it. -/
theorem IsP.coprime {p x : Nat} (h : IsP p) (hx : ¬ p ∣ x) : Nat.gcd p x = 1 := by
  have h1 : Nat.gcd p x ∣ p := Nat.gcd_dvd_left p x
  have h2 : 1 ≤ Nat.gcd p x := Nat.gcd_pos_of_pos_left _ (by have := h.1; omega)
  have h3 : Nat.gcd p x ≤ p := Nat.le_of_dvd (by have := h.1; omega) h1
  rcases Nat.lt_or_ge (Nat.gcd p x) 2 with h4 | h4
  · omega
  · exfalso
    rcases Nat.lt_or_ge (Nat.gcd p x) p with h5 | h5
    · exact h.noDiv _ h4 h5 (Nat.mod_eq_zero_of_dvd h1)
    · have e : Nat.gcd p x = p := by omega
      exact hx (e ▸ Nat.gcd_dvd_right p x)

theorem IsP.dvd_mul {p x y : Nat} (h : IsP p) (hd : p ∣ x * y) : p ∣ x ∨ p ∣ y := by
  by_cases hx : p ∣ x
  · exact .inl hx
  · right
    exact Nat.Coprime.dvd_of_dvd_mul_left (h.coprime hx) hd

theorem strip_dvd (p n : Nat) (hp : 2 ≤ p) (hn : 1 ≤ n) : strip p n ∣ n := ⟨p ^ mult p n, by rw [Nat.mul_comm]; exact (mult_strip hp n hn).symm⟩

theorem strip_not {p : Nat} (hp : 2 ≤ p) : ∀ (n : Nat), 1 ≤ n → ¬ p ∣ strip p n := by
  intro n
  induction n using Nat.strongRecOn with
  | _ n ih =>
    intro hn
    by_cases hm : n % p = 0
    · obtain ⟨_, h2, h3⟩ := mult_step hp hn hm
      rw [strip_step hp hn hm]
      exact ih _ h3 h2
    · rw [strip_zero hm]
      intro h
      exact hm (Nat.mod_eq_zero_of_dvd h)

theorem facs_dvd (n : Nat) : 1 ≤ n → ∀ x ∈ facs n, x.1 ∣ n ∧ IsP x.1 := by
  induction n using Nat.strongRecOn with
  | _ n ih =>
    intro hn x hx
    by_cases h : n ≤ 1
    · rw [facs_one h] at hx; cases hx
    · rw [facs_cons (by omega)] at hx
      have hl := ld_least (n := n) (by omega)
      have hs := strip_lt hl.1 (by omega) hl.2.1
      rcases List.mem_cons.1 hx with rfl | hx
      · exact ⟨Nat.dvd_of_mod_eq_zero hl.2.1, ld_isP (by omega)⟩
      · obtain ⟨h1, h2⟩ := ih _ hs (strip_pos hl.1 n hn) x hx
        exact ⟨Nat.dvd_trans h1 (strip_dvd _ _ hl.1 hn), h2⟩

/-- Ascending primes. -/
def Asc : List (Nat × Nat) → Prop
  | [] => True
  | x :: l => (∀ y ∈ l, x.1 < y.1) ∧ Asc l

theorem facs_asc (n : Nat) : Asc (facs n) := by
  induction n using Nat.strongRecOn with
  | _ n ih =>
    by_cases h : n ≤ 1
    · rw [facs_one h]; trivial
    · rw [facs_cons (by omega)]
      have hl := ld_least (n := n) (by omega)
      have hs := strip_lt hl.1 (by omega) hl.2.1
      have hsp := strip_pos hl.1 n (by omega)
      refine ⟨fun y hy => ?_, ih _ hs⟩
      obtain ⟨h1, h2⟩ := facs_dvd _ hsp y hy
      have h3 := Nat.dvd_trans h1 (strip_dvd _ _ hl.1 (by omega))
      rcases Nat.lt_trichotomy (ld n) y.1 with h4 | h4 | h4
      · exact h4
      · exfalso
        rw [← h4] at h1
        exact strip_not hl.1 n (by omega) h1
      · exfalso
        exact hl.2.2 _ h2.1 h4 (Nat.mod_eq_zero_of_dvd h3)

theorem Asc.get : ∀ {l : List (Nat × Nat)} (_ : Asc l) (k : Nat) (x y : Nat × Nat), l[k]? = some x → l[k + 1]? = some y → x.1 < y.1
  | [], _, k, x, y, hx, _ => by simp at hx
  | z :: l, h, 0, x, y, hx, hy => by
    simp at hx hy; subst hx
    exact h.1 y (List.mem_of_getElem? hy)
  | z :: l, h, k + 1, x, y, hx, hy => h.2.get k x y (by simpa using hx) (by simpa using hy)

/-- The product of prime powers. -/
def pw : List (Nat × Nat) → Nat
  | [] => 1
  | x :: l => x.1 ^ x.2 * pw l

theorem pw_append : ∀ (l k : List (Nat × Nat)), pw (l ++ k) = pw l * pw k
  | [], k => by simp [pw]
  | x :: l, k => by simp only [List.cons_append, pw]; rw [pw_append l k, Nat.mul_assoc]

theorem facs_pw (n : Nat) : 1 ≤ n → pw (facs n) = n := by
  induction n using Nat.strongRecOn with
  | _ n ih =>
    intro hn
    by_cases h : n ≤ 1
    · rw [facs_one h]; simp only [pw]; omega
    · rw [facs_cons (by omega)]
      have hl := ld_least (n := n) (by omega)
      have hs := strip_lt hl.1 (by omega) hl.2.1
      simp only [pw]
      rw [ih _ hs (strip_pos hl.1 n hn)]
      exact mult_strip hl.1 n hn

theorem two_pow_pw : ∀ (l : List (Nat × Nat)), (∀ x ∈ l, 2 ≤ x.1 ∧ 1 ≤ x.2) → 2 ^ l.length ≤ pw l
  | [], _ => by simp [pw]
  | x :: l, h => by
    obtain ⟨h1, h2⟩ := h x (List.mem_cons_self ..)
    have ih := two_pow_pw l fun y hy => h y (List.mem_cons_of_mem _ hy)
    simp only [pw, List.length_cons, Nat.pow_succ]
    have h3 : x.1 ^ 1 ≤ x.1 ^ x.2 := Nat.pow_le_pow_right (by omega) h2
    rw [Nat.pow_one] at h3
    have h4 := Nat.mul_le_mul (show 2 ≤ x.1 ^ x.2 by omega) ih
    omega

theorem facs_len {n : Nat} (h1 : 1 ≤ n) (h2 : n ≤ 2147483647) : (facs n).length ≤ 30 := by
  have h3 := two_pow_pw (facs n) fun x hx => ⟨(facs_ge n x hx).1, (facs_ge n x hx).2.1⟩
  rw [facs_pw n h1] at h3
  rcases Nat.lt_or_ge 30 (facs n).length with h4 | h4
  · have h5 : 2 ^ 31 ≤ 2 ^ (facs n).length := Nat.pow_le_pow_right (by omega) h4
    omega
  · exact h4

theorem pw_mem_dvd : ∀ (l : List (Nat × Nat)) (x : Nat × Nat), x ∈ l → x.1 ^ x.2 ∣ pw l
  | y :: l, x, h => by
    simp only [pw]
    rcases List.mem_cons.1 h with rfl | h
    · exact Nat.dvd_mul_right _ _
    · exact Nat.dvd_trans (pw_mem_dvd l x h) (Nat.dvd_mul_left _ _)

theorem facs_exp {n : Nat} (h1 : 1 ≤ n) (h2 : n ≤ 2147483647) : ∀ x ∈ facs n, x.2 ≤ 30 := by
  intro x hx
  have h3 := Nat.le_of_dvd h1 (facs_pw n h1 ▸ pw_mem_dvd _ x hx)
  have h4 : 2 ^ x.2 ≤ x.1 ^ x.2 := Nat.pow_le_pow_left (facs_ge n x hx).1 _
  rcases Nat.lt_or_ge 30 x.2 with h5 | h5
  · have h6 : 2 ^ 31 ≤ 2 ^ x.2 := Nat.pow_le_pow_right (by omega) h5
    omega
  · exact h5

/-- A part of the product. -/
theorem pw_part (l : List (Nat × Nat)) (k e : Nat) (x : Nat × Nat) (hx : l[k]? = some x) (he : e ≤ x.2) : pw (l.take k) * x.1 ^ e ∣ pw l := by
  have h1 : pw l = pw (l.take (k + 1)) * pw (l.drop (k + 1)) := by rw [← pw_append, List.take_append_drop]
  rw [h1, take_snoc_ hx, pw_append]
  simp only [pw, Nat.mul_one]
  refine Nat.dvd_trans ?_ (Nat.dvd_mul_right _ _)
  exact Nat.mul_dvd_mul_left _ (Nat.pow_dvd_pow _ he)

end Go.Proofs.Ytdnmhjpeklaijaa
