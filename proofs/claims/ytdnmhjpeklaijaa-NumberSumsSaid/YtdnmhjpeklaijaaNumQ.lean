/- Plain mathematics: the binomial theorem, Fermat, Euler, the order. -/
import Derived.Test.YtdnmhjpeklaijaaNumP
namespace Go.Proofs.Ytdnmhjpeklaijaa
set_option linter.unusedVariables false
set_option linter.unusedSimpArgs false

/-! ### Binomials -/
/-- The first terms of the binomial sum. -/
def bs (n x : Nat) : Nat → Nat
  | 0 => 0
  | k + 1 => bs n x k + choose n k * x ^ k

theorem bs_step (n x : Nat) : ∀ k, bs (n + 1) x (k + 1) = bs n x (k + 1) + x * bs n x k
  | 0 => by simp [bs, choose_zero]
  | k + 1 => by
    have ih := bs_step n x k
    rw [show bs (n + 1) x (k + 1 + 1) = bs (n + 1) x (k + 1) + choose (n + 1) (k + 1) * x ^ (k + 1) from rfl, ih, choose_succ,
      show bs n x (k + 1 + 1) = bs n x (k + 1) + choose n (k + 1) * x ^ (k + 1) from rfl,
      show bs n x (k + 1) = bs n x k + choose n k * x ^ k from rfl, Nat.add_mul, Nat.mul_add, Nat.pow_succ]
    have : choose n k * (x ^ k * x) = x * (choose n k * x ^ k) := by rw [Nat.mul_comm x, Nat.mul_assoc]
    omega

theorem binom (x : Nat) : ∀ n, (x + 1) ^ n = bs n x (n + 1)
  | 0 => by simp [bs, choose]
  | n + 1 => by
    rw [bs_step, show bs n x (n + 1 + 1) = bs n x (n + 1) + choose n (n + 1) * x ^ (n + 1) from rfl, choose_big n (n + 1) (by omega), ← binom x n, Nat.pow_succ, Nat.mul_add, Nat.mul_comm x]
    omega

theorem choose_dvd {p : Nat} (h : IsP p) {k : Nat} (h1 : 1 ≤ k) (h2 : k < p) : p ∣ choose p k := by
  obtain ⟨j, rfl⟩ : ∃ j, k = j + 1 := ⟨k - 1, by omega⟩
  obtain ⟨q, rfl⟩ : ∃ q, p = q + 1 := ⟨p - 1, by omega⟩
  have h3 := choose_mul q j
  have h4 : q + 1 ∣ (j + 1) * choose (q + 1) (j + 1) := ⟨_, h3⟩
  rcases h.dvd_mul h4 with h5 | h5
  · have := Nat.le_of_dvd (by omega) h5
    omega
  · exact h5

/-! ### x is 1 modulo m -/
def OneMod (m x : Nat) : Prop := ∃ c, x = 1 + m * c

theorem OneMod.one (m : Nat) : OneMod m 1 := ⟨0, by simp⟩
theorem OneMod.mul {m x y : Nat} (h : OneMod m x) (k : OneMod m y) : OneMod m (x * y) := by
  obtain ⟨c, rfl⟩ := h
  obtain ⟨d, rfl⟩ := k
  refine ⟨c + d + c * m * d, ?_⟩
  have : m * c * (m * d) = m * (c * m * d) := by ac_rfl
  simp only [Nat.add_mul, Nat.mul_add, Nat.one_mul, Nat.mul_one]
  rw [this]
  omega
theorem OneMod.pow {m x : Nat} (h : OneMod m x) : ∀ k, OneMod m (x ^ k)
  | 0 => OneMod.one m
  | k + 1 => by rw [Nat.pow_succ]; exact (h.pow k).mul h
theorem OneMod.iff {m x : Nat} (h : 1 ≤ x) : OneMod m x ↔ m ∣ x - 1 := by
  constructor
  · rintro ⟨c, rfl⟩; exact ⟨c, by omega⟩
  · rintro ⟨c, hc⟩; exact ⟨c, by omega⟩
theorem OneMod.pos {m x : Nat} (h : OneMod m x) : 1 ≤ x := by obtain ⟨c, rfl⟩ := h; omega
theorem OneMod.comb {a b x : Nat} (h : OneMod a x) (k : OneMod b x) (hg : Nat.gcd a b = 1) : OneMod (a * b) x := by
  have h1 := h.pos
  rw [OneMod.iff h1] at h k ⊢
  exact Nat.Coprime.mul_dvd_of_dvd_of_dvd hg h k
theorem OneMod.mod {m x : Nat} (h : OneMod m x) : x % m = 1 % m := by
  obtain ⟨c, rfl⟩ := h
  rw [Nat.add_mul_mod_self_left]
theorem OneMod.of_mod {m x : Nat} (hx : 1 ≤ x) (h : x % m = 1 % m) : OneMod m x := by
  rw [OneMod.iff hx]
  exact Nat.dvd_of_mod_eq_zero (Nat.sub_mod_eq_zero_of_mod_eq h)

theorem bs_fermat {p : Nat} (h : IsP p) (x : Nat) : ∀ k, k < p → ∃ c, bs p x (k + 1) = 1 + p * c
  | 0, _ => ⟨0, by simp [bs, choose_zero]⟩
  | k + 1, hk => by
    obtain ⟨c, hc⟩ := bs_fermat h x k (by omega)
    obtain ⟨d, hd⟩ := choose_dvd h (k := k + 1) (by omega) hk
    refine ⟨c + d * x ^ (k + 1), ?_⟩
    rw [show bs p x (k + 1 + 1) = bs p x (k + 1) + choose p (k + 1) * x ^ (k + 1) from rfl, hc, hd, Nat.mul_add, Nat.mul_assoc]
    omega

theorem fermat {p : Nat} (h : IsP p) : ∀ x, x ^ p % p = x % p
  | 0 => by rw [Nat.zero_pow (by have := h.1; omega)]
  | x + 1 => by
    have ih := fermat h x
    rw [binom, show bs p x (p + 1) = bs p x p + choose p p * x ^ p from rfl, choose_self, Nat.one_mul]
    obtain ⟨q, rfl⟩ : ∃ q, p = q + 1 := ⟨p - 1, by have := h.1; omega⟩
    obtain ⟨c, hc⟩ := bs_fermat h x q (by omega)
    rw [hc, Nat.add_right_comm, Nat.add_mul_mod_self_left, Nat.add_comm 1, Nat.add_mod, ih, ← Nat.add_mod]

theorem fermat_one {p x : Nat} (h : IsP p) (hx : ¬ p ∣ x) : OneMod p (x ^ (p - 1)) := by
  have h0 : 1 ≤ x := by
    rcases Nat.eq_zero_or_pos x with e | e
    · exact absurd (e ▸ Nat.dvd_zero p) hx
    · exact e
  have h1 : 1 ≤ x ^ (p - 1) := Nat.one_le_pow _ _ h0
  rw [OneMod.iff h1]
  have h2 : p ∣ x * (x ^ (p - 1) - 1) := by
    rw [Nat.mul_sub, Nat.mul_one, Nat.mul_comm, ← Nat.pow_succ, show (p - 1).succ = p by have := h.1; omega]
    exact Nat.dvd_of_mod_eq_zero (Nat.sub_mod_eq_zero_of_mod_eq (fermat h x))
  rcases h.dvd_mul h2 with h3 | h3
  · exact absurd h3 hx
  · exact h3

theorem bs_sq (n z : Nat) : ∀ k, ∃ c, bs n z (k + 2) = 1 + n * z + c * (z * z)
  | 0 => ⟨0, by
    have : choose n 1 = n := by
      cases n with
      | zero => rfl
      | succ m => have := choose_mul m 0; rw [choose_zero] at this; simpa using this
    simp [bs, choose_zero, this]⟩
  | k + 1 => by
    obtain ⟨c, hc⟩ := bs_sq n z k
    refine ⟨c + choose n (k + 2) * z ^ k, ?_⟩
    rw [show bs n z (k + 1 + 2) = bs n z (k + 2) + choose n (k + 2) * z ^ (k + 2) from rfl, hc, Nat.add_mul, show z ^ (k + 2) = z ^ k * (z * z) by rw [Nat.pow_succ, Nat.pow_succ, Nat.mul_assoc], Nat.mul_assoc]
    omega

theorem lift {p j y : Nat} (hp : 1 ≤ p) (hj : 1 ≤ j) (h : OneMod (p ^ j) y) : OneMod (p ^ (j + 1)) (y ^ p) := by
  obtain ⟨t, rfl⟩ := h
  obtain ⟨q, rfl⟩ : ∃ q, p = q + 1 := ⟨p - 1, by omega⟩
  obtain ⟨i, rfl⟩ : ∃ i, j = i + 1 := ⟨j - 1, by omega⟩
  rw [Nat.add_comm 1, binom ((q + 1) ^ (i + 1) * t) (q + 1)]
  obtain ⟨c, hc⟩ := bs_sq (q + 1) ((q + 1) ^ (i + 1) * t) q
  rw [hc]
  generalize q + 1 = p at *
  refine ⟨t + c * (p ^ i * t * t), ?_⟩
  rw [Nat.mul_add, Nat.add_assoc]
  congr 1
  have e1 : p * (p ^ (i + 1) * t) = p ^ (i + 1 + 1) * t := by rw [Nat.pow_succ p (i + 1), Nat.mul_comm (p ^ (i + 1)) p, Nat.mul_assoc]
  have e2 : c * (p ^ (i + 1) * t * (p ^ (i + 1) * t)) = p ^ (i + 1 + 1) * (c * (p ^ i * t * t)) := by
    simp only [Nat.pow_succ]; ac_rfl
  rw [e1, e2]

theorem euler_pow {p x : Nat} (h : IsP p) (hx : ¬ p ∣ x) : ∀ e, OneMod (p ^ (e + 1)) (x ^ (p ^ e * (p - 1)))
  | 0 => by simpa using fermat_one h hx
  | e + 1 => by
    have ih := euler_pow h hx e
    have := lift (by have := h.1; omega) (by omega) ih
    rwa [← Nat.pow_mul, show p ^ e * (p - 1) * p = p ^ (e + 1) * (p - 1) by rw [Nat.pow_succ]; ac_rfl] at this

/-! ### Euler's function -/
def phiF : List (Nat × Nat) → Nat
  | [] => 1
  | x :: l => x.1 ^ (x.2 - 1) * (x.1 - 1) * phiF l

/-- A list of prime powers. -/
def PP (l : List (Nat × Nat)) : Prop := ∀ x ∈ l, IsP x.1 ∧ 1 ≤ x.2

theorem facs_PP {n : Nat} (h : 1 ≤ n) : PP (facs n) := fun x hx => ⟨(facs_dvd n h x hx).2, (facs_ge n x hx).2.1⟩

theorem phiGo_pw : ∀ (l : List (Nat × Nat)) (m : Nat), PP l → phiGo (pw l * m) l = phiF l * m
  | [], m, _ => by simp [phiGo, pw, phiF]
  | x :: l, m, h => by
    obtain ⟨h1, h2⟩ := h x (List.mem_cons_self ..)
    have hx := h1.1
    simp only [phiGo, pw, phiF]
    obtain ⟨e, he⟩ : ∃ e, x.2 = e + 1 := ⟨x.2 - 1, by omega⟩
    rw [he, show x.1 ^ (e + 1) * pw l * m = x.1 * (x.1 ^ e * pw l * m) by rw [Nat.pow_succ]; ac_rfl, Nat.mul_div_cancel_left _ (by omega),
      show x.1 ^ e * pw l * m * (x.1 - 1) = pw l * (x.1 ^ e * (x.1 - 1) * m) by ac_rfl, phiGo_pw l _ (fun y hy => h y (List.mem_cons_of_mem _ hy))]
    simp only [Nat.add_sub_cancel]
    ac_rfl

theorem phi_F {n : Nat} (h : 1 ≤ n) : phi n = phiF (facs n) := by
  have := phiGo_pw (facs n) 1 (facs_PP h)
  rw [Nat.mul_one, Nat.mul_one, facs_pw n h] at this
  exact this

theorem IsP.dvd_pow {p x : Nat} (h : IsP p) : ∀ k, p ∣ x ^ k → p ∣ x
  | 0, hd => by
    have := Nat.le_of_dvd (by simp) hd
    have := h.1
    simp at *; omega
  | k + 1, hd => by
    rw [Nat.pow_succ] at hd
    rcases h.dvd_mul hd with h1 | h1
    · exact h.dvd_pow k h1
    · exact h1

theorem IsP.dvd_isP {p q : Nat} (h : IsP p) (k : IsP q) (hd : p ∣ q) : p = q := by
  rcases Nat.lt_or_ge p q with h1 | h1
  · exact absurd (Nat.mod_eq_zero_of_dvd hd) (k.noDiv p h.1 h1)
  · have := Nat.le_of_dvd (by have := k.1; omega) hd
    omega

theorem IsP.dvd_pw {p : Nat} (h : IsP p) : ∀ (l : List (Nat × Nat)), PP l → p ∣ pw l → ∃ x ∈ l, x.1 = p
  | [], _, hd => by
    simp only [pw] at hd
    have := Nat.le_of_dvd (by omega) hd
    have := h.1; omega
  | y :: l, hl, hd => by
    simp only [pw] at hd
    rcases h.dvd_mul hd with h1 | h1
    · exact ⟨y, List.mem_cons_self .., (h.dvd_isP (hl y (List.mem_cons_self ..)).1 (h.dvd_pow _ h1)).symm⟩
    · obtain ⟨x, hx, e⟩ := h.dvd_pw l (fun y hy => hl y (List.mem_cons_of_mem _ hy)) h1
      exact ⟨x, List.mem_cons_of_mem _ hx, e⟩

/-- Numbers are coprime if no prime divides both. -/
theorem coprime_of {a b : Nat} (h : ∀ p, IsP p → p ∣ a → ¬ p ∣ b) (hb : 1 ≤ b) : Nat.gcd a b = 1 := by
  have h1 : 1 ≤ Nat.gcd a b := Nat.gcd_pos_of_pos_right _ hb
  rcases Nat.lt_or_ge (Nat.gcd a b) 2 with h2 | h2
  · omega
  · exfalso
    have h3 := Nat.dvd_of_mod_eq_zero (ld_least h2).2.1
    exact h _ (ld_isP h2) (Nat.dvd_trans h3 (Nat.gcd_dvd_left a b)) (Nat.dvd_trans h3 (Nat.gcd_dvd_right a b))

theorem pw_pos : ∀ (l : List (Nat × Nat)), PP l → 1 ≤ pw l
  | [], _ => by simp [pw]
  | x :: l, h => by
    simp only [pw]
    exact Nat.mul_pos (Nat.pow_pos (by have := (h x (List.mem_cons_self ..)).1.1; omega)) (pw_pos l fun y hy => h y (List.mem_cons_of_mem _ hy))

theorem Asc.not_dvd {x : Nat × Nat} {l : List (Nat × Nat)} (h : Asc (x :: l)) (hp : PP (x :: l)) : ¬ x.1 ∣ pw l := fun hd => by
  obtain ⟨y, hy, e⟩ := (hp x (List.mem_cons_self ..)).1.dvd_pw l (fun y hy => hp y (List.mem_cons_of_mem _ hy)) hd
  have := h.1 y hy
  omega

theorem Asc.coprime {x : Nat × Nat} {l : List (Nat × Nat)} (h : Asc (x :: l)) (hp : PP (x :: l)) (e : Nat) : Nat.gcd (x.1 ^ e) (pw l) = 1 := by
  have hx := (hp x (List.mem_cons_self ..)).1
  refine coprime_of (fun p h1 h2 h3 => ?_) (pw_pos l fun y hy => hp y (List.mem_cons_of_mem _ hy))
  have h4 := h1.dvd_isP hx (h1.dvd_pow _ h2)
  subst h4
  exact h.not_dvd hp h3

theorem euler_list (x : Nat) (hx0 : 1 ≤ x) : ∀ (l : List (Nat × Nat)), Asc l → PP l → (∀ y ∈ l, ¬ y.1 ∣ x) → OneMod (pw l) (x ^ phiF l)
  | [], _, _, _ => by simp only [pw]; exact (OneMod.iff (Nat.one_le_pow _ _ hx0)).2 (Nat.one_dvd _)
  | y :: l, ha, hp, hx => by
    have ih := euler_list x hx0 l ha.2 (fun z hz => hp z (List.mem_cons_of_mem _ hz)) (fun z hz => hx z (List.mem_cons_of_mem _ hz))
    obtain ⟨h1, h2⟩ := hp y (List.mem_cons_self ..)
    have h3 := euler_pow h1 (hx y (List.mem_cons_self ..)) (y.2 - 1)
    rw [show y.2 - 1 + 1 = y.2 by omega] at h3
    simp only [pw, phiF]
    refine OneMod.comb ?_ ?_ (ha.coprime hp y.2)
    · rw [Nat.pow_mul]; exact h3.pow _
    · rw [Nat.mul_comm, Nat.pow_mul]; exact ih.pow _

/-- Euler's theorem. -/
theorem euler {n x : Nat} (hn : 1 ≤ n) (hg : Nat.gcd x n = 1) : x ^ phi n % n = 1 % n := by
  rcases Nat.eq_or_lt_of_le hn with h1 | h1
  · subst h1; simp [Nat.mod_one]
  · have hx : 1 ≤ x := by
      rcases Nat.eq_zero_or_pos x with e | e
      · subst e; rw [Nat.gcd_zero_left] at hg; omega
      · exact e
    have h2 := euler_list x hx (facs n) (facs_asc n) (facs_PP hn) (fun y hy hd => by
      obtain ⟨h3, h4⟩ := facs_dvd n hn y hy
      have := Nat.le_of_dvd (by omega) (hg ▸ Nat.dvd_gcd hd h3)
      have := h4.1
      omega)
    rw [facs_pw n hn, ← phi_F hn] at h2
    exact h2.mod
end Go.Proofs.Ytdnmhjpeklaijaa
