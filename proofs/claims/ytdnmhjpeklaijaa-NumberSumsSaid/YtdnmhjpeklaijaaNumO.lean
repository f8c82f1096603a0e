/- Plain mathematics: the multiplicative order. -/
import Derived.Test.YtdnmhjpeklaijaaNumQ
namespace Go.Proofs.Ytdnmhjpeklaijaa
set_option linter.unusedVariables false
set_option linter.unusedSimpArgs false

/-- A set of exponents that is closed under sums and differences. -/
structure Closed (P : Nat → Prop) : Prop where
  zero : P 0
  add : ∀ i j, P i → P j → P (i + j)
  sub : ∀ i j, P i → P (i + j) → P j

theorem Closed.mul {P : Nat → Prop} (h : Closed P) {i : Nat} (hi : P i) : ∀ k, P (i * k)
  | 0 => h.zero
  | k + 1 => by rw [Nat.mul_succ]; exact h.add _ _ (h.mul hi k) hi

theorem Closed.dvd {P : Nat → Prop} (h : Closed P) {i j : Nat} (hi : P i) (hd : i ∣ j) : P j := by
  obtain ⟨k, rfl⟩ := hd; exact h.mul hi k

theorem Closed.mod {P : Nat → Prop} (h : Closed P) {i j : Nat} (hi : P i) (hj : P j) : P (j % i) := by
  refine h.sub (i * (j / i)) _ (h.mul hi _) ?_
  rw [Nat.div_add_mod]; exact hj

theorem Closed.gcd {P : Nat → Prop} (h : Closed P) : ∀ (i j : Nat), P i → P j → P (Nat.gcd i j) := by
  intro i
  induction i using Nat.strongRecOn with
  | _ i ih =>
    intro j hi hj
    rcases Nat.eq_zero_or_pos i with e | e
    · subst e; rw [Nat.gcd_zero_left]; exact hj
    · rw [Nat.gcd_rec]
      exact ih _ (Nat.mod_lt _ e) _ (h.mod hi hj) hi

/-- Not even at the p-th part. -/
def Tight (P : Nat → Prop) (p k : Nat) : Prop := p ∣ k → ¬ P (k / p)

theorem Tight.dvd {P : Nat → Prop} (h : Closed P) {p k j : Nat} (hp : 1 ≤ p) (ht : Tight P p k) (hd : j ∣ k) : Tight P p j := fun hpj hP => by
  refine ht (Nat.dvd_trans hpj hd) (h.dvd hP ?_)
  obtain ⟨c, rfl⟩ := hd
  obtain ⟨d, rfl⟩ := hpj
  rw [Nat.mul_assoc, Nat.mul_div_cancel_left _ (by omega), Nat.mul_div_cancel_left _ (by omega)]
  exact Nat.dvd_mul_right _ _

def PO (a n : Int) (k : Nat) : Prop := a ^ k % n = 1 % n

theorem PO.closed (a n : Int) : Closed (PO a n) where
  zero := by simp [PO]
  add := fun i j hi hj => by
    unfold PO at *
    rw [Int.pow_add, Int.mul_emod, hi, hj, ← Int.mul_emod, Int.mul_one]
  sub := fun i j hi hj => by
    unfold PO at *
    rw [Int.pow_add, Int.mul_emod, hi, ← Int.mul_emod, Int.one_mul] at hj
    exact hj

theorem ordIn_spec (a n : Int) {p : Nat} (hp : IsP p) (m : Nat) (hm : ¬ p ∣ m) : ∀ (e : Nat), PO a n (p ^ e * m) →
    ∃ f, f ≤ e ∧ ordIn a n p e (p ^ e * m) = p ^ f * m ∧ PO a n (p ^ f * m) ∧ Tight (PO a n) p (p ^ f * m)
  | 0, h => ⟨0, Nat.le_refl _, rfl, h, fun hd => absurd (by simpa using hd) hm⟩
  | e + 1, h => by
    have h0 : p ^ (e + 1) * m / p = p ^ e * m := by
      rw [Nat.pow_succ, show p ^ e * p * m = p * (p ^ e * m) by ac_rfl, Nat.mul_div_cancel_left _ (by have := hp.1; omega)]
    by_cases hc : PO a n (p ^ (e + 1) * m / p)
    · rw [ordIn_yes hc, h0]
      rw [h0] at hc
      obtain ⟨f, h1, h2, h3, h4⟩ := ordIn_spec a n hp m hm e hc
      exact ⟨f, by omega, h2, h3, h4⟩
    · exact ⟨e + 1, Nat.le_refl _, ordIn_no hc, h, fun _ => hc⟩

theorem ordL_spec (a n : Int) : ∀ (l : List (Nat × Nat)) (m : Nat), Asc l → PP l → (∀ x ∈ l, ¬ x.1 ∣ m) → PO a n (pw l * m) →
    ordL a n l (pw l * m) ∣ pw l * m ∧ PO a n (ordL a n l (pw l * m)) ∧ ∀ x ∈ l, Tight (PO a n) x.1 (ordL a n l (pw l * m))
  | [], m, _, _, _, h => ⟨Nat.dvd_refl _, h, fun _ hx => by cases hx⟩
  | x :: l, m, ha, hp, hm, h => by
    obtain ⟨hx, _⟩ := hp x (List.mem_cons_self ..)
    have hpl : PP l := fun y hy => hp y (List.mem_cons_of_mem _ hy)
    have hxm : ¬ x.1 ∣ pw l * m := fun hd => by
      rcases hx.dvd_mul hd with h1 | h1
      · exact ha.not_dvd hp h1
      · exact hm x (List.mem_cons_self ..) h1
    simp only [pw] at h ⊢
    rw [Nat.mul_assoc] at h ⊢
    obtain ⟨f, h1, h2, h3, h4⟩ := ordIn_spec a n hx (pw l * m) hxm x.2 h
    simp only [ordL]
    rw [h2]
    have h5 : x.1 ^ f * (pw l * m) = pw l * (x.1 ^ f * m) := by ac_rfl
    rw [h5] at h3 h4 ⊢
    obtain ⟨k1, k2, k3⟩ := ordL_spec a n l (x.1 ^ f * m) ha.2 hpl (fun y hy hd => by
      have hy' := (hpl y hy).1
      rcases hy'.dvd_mul hd with h6 | h6
      · have := hy'.dvd_isP hx (hy'.dvd_pow _ h6)
        have := ha.1 y hy
        omega
      · exact hm y (List.mem_cons_of_mem _ hy) h6) h3
    refine ⟨Nat.dvd_trans k1 ?_, k2, fun y hy => ?_⟩
    · rw [← h5]
      exact Nat.mul_dvd_mul_right (Nat.pow_dvd_pow _ h1) _
    · rcases List.mem_cons.1 hy with rfl | hy
      · exact h4.dvd (PO.closed a n) (by have := hx.1; omega) k1
      · exact k3 y hy

/-- The order divides every exponent of 1. -/
theorem tight_min {P : Nat → Prop} (h : Closed P) {o K : Nat} {l : List (Nat × Nat)} (hK : K = pw l) (hp : PP l) (ho : 1 ≤ o) (hd : o ∣ K) (hP : P o) (ht : ∀ x ∈ l, Tight P x.1 o) (j : Nat) (hj : P j) : o ∣ j := by
  have hr := h.mod hP hj
  rcases Nat.eq_zero_or_pos (j % o) with e | e
  · exact Nat.dvd_of_mod_eq_zero e
  · exfalso
    have hlt := Nat.mod_lt j (show o > 0 by omega)
    have hg := h.gcd o (j % o) hP hr
    have hg1 := Nat.gcd_le_right o e
    have hg0 : 1 ≤ Nat.gcd o (j % o) := Nat.gcd_pos_of_pos_left _ (by omega)
    obtain ⟨c, hc⟩ := Nat.gcd_dvd_left o (j % o)
    generalize Nat.gcd o (j % o) = g at *
    have hc2 : 2 ≤ c := by
      rcases Nat.lt_or_ge c 2 with h1 | h1
      · have : g * c ≤ g * 1 := Nat.mul_le_mul_left _ (by omega)
        omega
      · exact h1
    have hq := ld_isP hc2
    obtain ⟨d, hd2⟩ := Nat.dvd_of_mod_eq_zero (ld_least hc2).2.1
    generalize ld c = q at *
    have hqo : q ∣ o := by rw [hc, hd2]; exact ⟨g * d, by ac_rfl⟩
    obtain ⟨x, hx, he⟩ := hq.dvd_pw l hp (Nat.dvd_trans hqo (hK ▸ hd))
    subst he
    refine ht x hx hqo (h.dvd hg ?_)
    rw [hc, hd2, show g * (x.1 * d) = x.1 * (g * d) by ac_rfl, Nat.mul_div_cancel_left _ (by have := hq.1; omega)]
    exact Nat.dvd_mul_right _ _

theorem int_pow_mod (a : Int) (n : Nat) (hn : 1 ≤ n) (k : Nat) : a ^ k % n = (((a % n).toNat ^ k % n : Nat) : Int) := by
  have h0 : (((a % (n : Int)).toNat : Nat) : Int) = a % n := Int.toNat_of_nonneg (Int.emod_nonneg _ (by omega))
  rw [Int.natCast_emod, Int.natCast_pow, h0, pow_emod_]

theorem PO_iff (a : Int) (n : Nat) (hn : 1 ≤ n) (k : Nat) : PO a n k ↔ (a % n).toNat ^ k % n = 1 % n := by
  unfold PO
  rw [int_pow_mod a n hn k]
  have : (1 : Int) % (n : Int) = ((1 % n : Nat) : Int) := by rw [Int.natCast_emod]; rfl
  rw [this]
  omega

theorem euler_PO (a : Int) (n : Nat) (hn : 1 ≤ n) (hg : Int.gcd (a % n) n = 1) : PO a n (phi n) := by
  rw [PO_iff a n hn]
  refine euler hn ?_
  have h0 : (a % (n : Int)).toNat = (a % (n : Int)).natAbs := by
    have := Int.emod_nonneg a (b := (n : Int)) (by omega)
    omega
  rw [h0]
  exact hg

/-- A power that is 1 makes an inverse. -/
theorem PO.gcd {a : Int} {n k : Nat} (hn : 1 ≤ n) (hk : 1 ≤ k) (h : PO a n k) : Int.gcd (a % n) n = 1 := by
  rw [PO_iff a n hn] at h
  have h0 : (a % (n : Int)).toNat = (a % (n : Int)).natAbs := by
    have := Int.emod_nonneg a (b := (n : Int)) (by omega)
    omega
  show Nat.gcd (a % (n : Int)).natAbs n = 1
  rw [← h0]
  generalize (a % (n : Int)).toNat = x at *
  refine coprime_of (fun p hp h1 h2 => ?_) hn
  obtain ⟨j, rfl⟩ : ∃ j, k = j + 1 := ⟨k - 1, by omega⟩
  have h3 : p ∣ x ^ (j + 1) % n := (Nat.dvd_mod_iff h2).2 (Nat.dvd_trans h1 ⟨x ^ j, by rw [Nat.pow_succ, Nat.mul_comm]⟩)
  rw [h] at h3
  have h4 := (Nat.dvd_mod_iff h2).1 h3
  have := Nat.le_of_dvd (by omega) h4
  have := hp.1
  omega

/-- What Order hands back. -/
theorem ordP_spec (a : Int) (n : Nat) (hn : 1 ≤ n) (hg : Int.gcd (a % n) n = 1) :
    1 ≤ ordP a n ∧ ordP a n ∣ phi n ∧ PO a n (ordP a n) ∧ ∀ j, PO a n j → ordP a n ∣ j := by
  have hphi := phi_pos hn
  have h1 := euler_PO a n hn hg
  have hf := facs_pw (phi n) hphi
  have hm : ∀ x ∈ facs (phi n), ¬ x.1 ∣ 1 := fun x hx hd => by
    have := Nat.le_of_dvd (by omega) hd
    have := ((facs_PP hphi) x hx).1.1
    omega
  obtain ⟨k1, k2, k3⟩ := ordL_spec a n (facs (phi n)) 1 (facs_asc _) (facs_PP hphi) hm (by rw [Nat.mul_one, hf]; exact h1)
  rw [Nat.mul_one, hf] at k1 k2 k3
  have e : ordP a n = ordL a n (facs (phi n)) (phi n) := by unfold ordP; rw [Int.toNat_natCast]
  rw [e]
  have ho : 1 ≤ ordL a n (facs (phi n)) (phi n) := Nat.pos_of_dvd_of_pos k1 hphi
  exact ⟨ho, k1, k2, tight_min (PO.closed a n) hf.symm (facs_PP hphi) ho k1 k2 k3⟩
end Go.Proofs.Ytdnmhjpeklaijaa
