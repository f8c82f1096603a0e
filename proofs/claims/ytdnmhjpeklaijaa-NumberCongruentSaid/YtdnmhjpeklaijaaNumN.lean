/- Plain mathematics: the Chinese remainder theorem. -/
import Derived.Test.YtdnmhjpeklaijaaNumM
namespace Go.Proofs.Ytdnmhjpeklaijaa
set_option linter.unusedVariables false
set_option linter.unusedSimpArgs false

/-! ### The Chinese remainder theorem -/
theorem chinT_mod {x d r m : Int} (hm : 1 ≤ m) (hg : Int.gcd (d % m) m = 1) : m ∣ x + d * chinT x d r m - r := by
  have d0 := Int.emod_nonneg d (b := m) (by omega)
  have d1 := Int.emod_lt_of_pos d (b := m) (by omega)
  obtain ⟨_, _, _, _, _, h6⟩ := halfX_out d0 d1
  rw [hg] at h6
  generalize hh : halfX (d % m) m = h at *
  have e1 : chinT x d r m = (r - x) % m * h % m := by unfold chinT; rw [hh]
  rw [e1]
  obtain ⟨k, hk⟩ := h6
  have e2 := Int.emod_add_mul_ediv ((r - x) % m * h) m
  have e3 := Int.emod_add_mul_ediv (r - x) m
  have e4 := Int.emod_add_mul_ediv d m
  generalize hA : (r - x) % m = A at *
  generalize hB : A * h / m = B at *
  generalize hC : A * h % m = C at *
  generalize hD : (r - x) / m = D at *
  generalize hE : d % m = E at *
  generalize hF : d / m = F at *
  refine ⟨F * C + A * k - E * B - D, ?_⟩
  have f1 : d * C = E * C + m * (F * C) := by rw [← e4, Int.add_mul, Int.mul_assoc]
  have f2 : E * C = A * (h * E) - m * (E * B) := by
    have : E * (C + m * B) = E * (A * h) := by rw [e2]
    rw [Int.mul_add] at this
    have g1 : E * (A * h) = A * (h * E) := by simp only [Int.mul_comm, Int.mul_left_comm]
    have g2 : E * (m * B) = m * (E * B) := by simp only [Int.mul_left_comm]
    omega
  have f3 : A * (h * E) = A + A * (m * k) := by
    have : h * E = 1 + m * k := by rw [show ((1 : Nat) : Int) = 1 from rfl] at hk; omega
    rw [this, Int.mul_add, Int.mul_one]
  have f4 : A * (m * k) = m * (A * k) := by simp only [Int.mul_left_comm]
  have f5 : m * (F * C + A * k - E * B - D) = m * (F * C) + m * (A * k) - m * (E * B) - m * D := by
    rw [Int.mul_sub, Int.mul_sub, Int.mul_add]
  rw [f5]
  omega

theorem mul_dvd_of_coprime {a b t : Int} (h1 : a ∣ t) (h2 : b ∣ t) (hg : Int.gcd a b = 1) : a * b ∣ t := by
  obtain ⟨k, rfl⟩ := h1
  have h3 : b ∣ k := by
    refine dvd_of_mul_coprime (c := a) ?_ hg
    rw [Int.mul_comm]; exact h2
  exact Int.mul_dvd_mul_left a h3

theorem chinGo_facts : ∀ (rs ms : List Int) (x0 d0 x d : Int), rs.length = ms.length → (∀ m ∈ ms, 1 ≤ m) → 0 ≤ x0 → x0 < d0 → chinGo rs ms x0 d0 = some (x, d) →
    0 ≤ x ∧ x < d ∧ d = d0 * prodL ms ∧ d0 ∣ x - x0 ∧ (∀ (i : Nat) (m r : Int), ms[i]? = some m → rs[i]? = some r → m ∣ x - r) ∧ (∀ t, d0 ∣ t → (∀ m ∈ ms, m ∣ t) → d ∣ t)
  | [], [], x0, d0, x, d, _, _, h0, h1, h => by
    simp only [chinGo, Option.some.injEq, Prod.mk.injEq] at h
    obtain ⟨rfl, rfl⟩ := h
    exact ⟨h0, h1, by simp [prodL], by simp, by intro i m r hm; simp at hm, fun t ht _ => ht⟩
  | [], m :: ms, _, _, _, _, hl, _, _, _, _ => by simp at hl
  | r :: rs, [], _, _, _, _, hl, _, _, _, _ => by simp at hl
  | r :: rs, m :: ms, x0, d0, x, d, hl, hm, h0, h1, h => by
    simp only [chinGo] at h
    have hm1 := hm m (List.mem_cons_self ..)
    split at h
    · rename_i hg
      obtain ⟨t0, t1⟩ := chinT_lim (x := x0) (d := d0) (r := r) hm1
      obtain ⟨u0, u1⟩ := chin_step_lim h0 h1 t0 t1
      obtain ⟨a1, a2, a3, a4, a5, a6⟩ := chinGo_facts rs ms _ _ x d (by simpa using hl) (fun y hy => hm y (List.mem_cons_of_mem _ hy)) (by omega) u1 h
      have hmod := chinT_mod (x := x0) (d := d0) (r := r) hm1 hg
      have hgd : Int.gcd d0 m = 1 := by
        have := gcd_emod_natAbs d0 m
        rw [show (m.natAbs : Int) = m by omega] at this
        omega
      refine ⟨a1, a2, ?_, ?_, ?_, ?_⟩
      · rw [a3]; simp only [prodL]; rw [Int.mul_assoc]
      · have h2 := Int.dvd_trans (Int.dvd_mul_right d0 m) a4
        have h3 : x - x0 = (x - (x0 + d0 * chinT x0 d0 r m)) + d0 * chinT x0 d0 r m := by omega
        rw [h3]
        exact Int.dvd_add h2 (Int.dvd_mul_right _ _)
      · intro i m' r' e1 e2
        cases i with
        | zero =>
          simp at e1 e2
          subst e1; subst e2
          have h2 := Int.dvd_trans (Int.dvd_mul_left d0 m) a4
          have h3 : x - r = (x - (x0 + d0 * chinT x0 d0 r m)) + (x0 + d0 * chinT x0 d0 r m - r) := by omega
          rw [h3]
          exact Int.dvd_add h2 hmod
        | succ i => exact a5 i m' r' (by simpa using e1) (by simpa using e2)
      · intro t ht hmt
        exact a6 t (mul_dvd_of_coprime ht (hmt m (List.mem_cons_self ..)) hgd) fun y hy => hmt y (List.mem_cons_of_mem _ hy)
    · cases h

theorem chinGo_err {rs ms : List Int} {x d : Int} : chinO (chinGo rs ms x d) = (0, 0, 11) ∨ ∃ y n, chinGo rs ms x d = some (y, n) := by
  cases h : chinGo rs ms x d with
  | none => left; rfl
  | some p => right; exact ⟨p.1, p.2, rfl⟩

theorem emod_eq_of_dvd_sub {a b m : Int} (h : m ∣ a - b) : a % m = b % m := Int.emod_eq_emod_iff_emod_sub_eq_zero.2 (Int.emod_eq_zero_of_dvd h)

theorem chin_facts (rs ms : List Int) : ∃ x n e : Int, chinS rs ms = (x, n, e) ∧ ((e ≠ 0 ∧ x = 0 ∧ n = 0) ∨
    (e = 0 ∧ rs.length = ms.length ∧ (∀ m ∈ ms, 1 ≤ m ∧ m ≤ 2147483647) ∧ 0 ≤ x ∧ x < n ∧ n ≤ 2147483647 ∧ (∀ (i : Nat) (m r : Int), ms[i]? = some m → rs[i]? = some r → x % m = r % m) ∧
      (∀ z, 0 ≤ z → z < n → (∀ m ∈ ms, z % m = x % m) → z = x))) := by
  unfold chinS
  by_cases h1 : rs.length ≠ ms.length
  · rw [if_pos h1]; exact ⟨_, _, _, rfl, .inl ⟨by omega, rfl, rfl⟩⟩
  rw [if_neg h1]
  by_cases h2 : ms.all inN = false
  · rw [if_pos h2]; exact ⟨_, _, _, rfl, .inl ⟨by omega, rfl, rfl⟩⟩
  rw [if_neg h2]
  by_cases h3 : 2147483647 < prodL ms
  · rw [if_pos h3]; exact ⟨_, _, _, rfl, .inl ⟨by omega, rfl, rfl⟩⟩
  rw [if_neg h3]
  rcases chinGo_err (rs := rs) (ms := ms) (x := 0) (d := 1) with h4 | ⟨y, n, h4⟩
  · rw [h4]; exact ⟨_, _, _, rfl, .inl ⟨by omega, rfl, rfl⟩⟩
  · have hlen : rs.length = ms.length := by omega
    have hall : ∀ m ∈ ms, 1 ≤ m ∧ m ≤ 2147483647 := by
      intro m hm
      have h5 : ms.all inN = true := by simpa using h2
      have := List.all_eq_true.1 h5 m hm
      unfold inN at this
      simpa using this
    obtain ⟨a1, a2, a3, a4, a5, a6⟩ := chinGo_facts rs ms 0 1 y n hlen (fun m hm => (hall m hm).1) (by omega) (by omega) h4
    rw [Int.one_mul] at a3
    rw [h4]
    refine ⟨y, n, 0, rfl, .inr ⟨rfl, hlen, hall, a1, a2, by omega, fun i m r e1 e2 => emod_eq_of_dvd_sub (a5 i m r e1 e2), fun z z0 z1 hz => ?_⟩⟩
    have h5 : n ∣ z - y := a6 (z - y) (Int.one_dvd _) fun m hm => Int.dvd_of_emod_eq_zero (Int.emod_eq_emod_iff_emod_sub_eq_zero.1 (hz m hm))
    obtain ⟨k, hk⟩ := h5
    have k1 : k < 1 := by
      apply Int.lt_of_mul_lt_mul_left (a := n) _ (by omega)
      omega
    have k2 : -1 < k := by
      apply Int.lt_of_mul_lt_mul_left (a := n) _ (by omega)
      omega
    have : k = 0 := by omega
    subst this
    omega


end Go.Proofs.Ytdnmhjpeklaijaa
