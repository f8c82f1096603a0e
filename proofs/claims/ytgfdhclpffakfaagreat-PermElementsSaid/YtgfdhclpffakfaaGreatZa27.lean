/- Plain: numbers as limbs of 32 bits. -/
import Derived.Test.YtgfdhclpffakfaaGreatZa24
namespace Go.Proofs.YtgfdhclpffakfaaGreat
set_option linter.unusedVariables false
set_option linter.unusedSimpArgs false

def B32 : Nat := 4294967296
theorem b32_pos : 0 < B32 := by decide
/-- The value of the first n limbs. -/
def vS (f : Nat → Nat) : Nat → Nat
  | 0 => 0
  | n + 1 => vS f n + f n * B32 ^ n
theorem vS_congr {f g : Nat → Nat} : ∀ {n}, (∀ k, k < n → f k = g k) → vS f n = vS g n
  | 0, _ => rfl
  | n + 1, h => by unfold vS; rw [vS_congr fun k hk => h k (by omega), h n (by omega)]
theorem vS_lt {f : Nat → Nat} : ∀ n, (∀ k, k < n → f k < B32) → vS f n < B32 ^ n
  | 0, _ => by unfold vS; decide
  | n + 1, h => by
    have h1 := vS_lt n fun k hk => h k (by omega)
    have h2 : f n + 1 ≤ B32 := h n (by omega)
    have h3 := Nat.mul_le_mul_right (B32 ^ n) h2
    rw [Nat.add_mul, Nat.one_mul] at h3
    unfold vS
    rw [Nat.pow_succ, Nat.mul_comm (B32 ^ n) B32]
    omega
/-- One limb changes. -/
theorem vS_upd {f : Nat → Nat} {j x : Nat} : ∀ {n}, j < n → vS (upd f j x) n + f j * B32 ^ j = vS f n + x * B32 ^ j
  | 0, h => by omega
  | n + 1, h => by
    by_cases e : j = n
    · subst e
      unfold vS
      have h1 : vS (upd f j x) j = vS f j := vS_congr fun k hk => by unfold upd; rw [if_neg (by omega)]
      have h2 : upd f j x j = x := by unfold upd; rw [if_pos rfl]
      rw [h1, h2]; omega
    · have h1 := vS_upd (f := f) (x := x) (n := n) (j := j) (by omega)
      have h2 : upd f j x n = f n := by unfold upd; rw [if_neg (by omega)]
      unfold vS
      rw [h2]; omega
theorem vS_zero {f : Nat → Nat} : ∀ {n m}, m ≤ n → (∀ k, m ≤ k → k < n → f k = 0) → vS f n = vS f m
  | 0, m, h, _ => by rw [show m = 0 by omega]
  | n + 1, m, h, h0 => by
    by_cases e : m = n + 1
    · rw [e]
    · show vS f n + f n * B32 ^ n = vS f m
      rw [h0 n (by omega) (by omega), Nat.zero_mul, Nat.add_zero]
      exact vS_zero (by omega) fun k h1 h2 => h0 k h1 (by omega)
/-- Limbs in canonical form. -/
structure Cano (n : Nat) (f : Nat → Nat) : Prop where
  lt : ∀ k, k < n → f k < B32
  top : ∀ m, n = m + 1 → f m ≠ 0
theorem Cano.ge {m : Nat} {f : Nat → Nat} (h : Cano (m + 1) f) : B32 ^ m ≤ vS f (m + 1) := by
  have h1 : 1 ≤ f m := Nat.one_le_iff_ne_zero.2 (h.top m rfl)
  have := Nat.mul_le_mul_right (B32 ^ m) h1
  unfold vS
  omega
theorem Cano.len {n m : Nat} {f : Nat → Nat} (h : Cano n f) (hv : vS f n < B32 ^ m) : n ≤ m := by
  cases n with
  | zero => omega
  | succ k =>
    have h1 := h.ge
    have h2 : B32 ^ k < B32 ^ m := by omega
    have := (Nat.pow_lt_pow_iff_right (by decide : 1 < B32)).1 h2
    omega
theorem vS_inj {f g : Nat → Nat} : ∀ n, (∀ k, k < n → f k < B32) → (∀ k, k < n → g k < B32) → vS f n = vS g n → ∀ k, k < n → f k = g k
  | 0, _, _, _, k, hk => by omega
  | n + 1, hf, hg, h, k, hk => by
    have h1 := vS_lt n fun k hk => hf k (by omega)
    have h2 := vS_lt n fun k hk => hg k (by omega)
    unfold vS at h
    have e : f n = g n := by
      apply Classical.byContradiction
      intro hne
      rcases Nat.lt_or_gt_of_ne hne with h3 | h3
      · have h3 : f n + 1 ≤ g n := h3
        have := Nat.mul_le_mul_right (B32 ^ n) h3
        rw [Nat.add_mul, Nat.one_mul] at this
        omega
      · have h3 : g n + 1 ≤ f n := h3
        have := Nat.mul_le_mul_right (B32 ^ n) h3
        rw [Nat.add_mul, Nat.one_mul] at this
        omega
    by_cases e2 : k = n
    · subst e2; exact e
    · rw [e] at h
      exact vS_inj n (fun k hk => hf k (by omega)) (fun k hk => hg k (by omega)) (by omega) k (by omega)
theorem Cano.uniq {n m : Nat} {f g : Nat → Nat} (hf : Cano n f) (hg : Cano m g) (h : vS f n = vS g m) : n = m ∧ ∀ k, k < n → f k = g k := by
  have h1 : n ≤ m := hf.len (by rw [h]; exact vS_lt m hg.lt)
  have h2 : m ≤ n := hg.len (by rw [← h]; exact vS_lt n hf.lt)
  have e : n = m := by omega
  subst e
  exact ⟨rfl, vS_inj n hf.lt hg.lt h⟩
/-- The limb a, times b, behind j limbs of b: the inner loop of the product. -/
structure MulJ (N i m : Nat) (a b : Nat → Nat) (f : Nat → Nat) (c j : Nat) : Prop where
  lt : ∀ k, k < N → f k < B32
  zero : ∀ k, i + m ≤ k → f k = 0
  cl : c < B32
  val : vS f N + c * B32 ^ (i + j) = vS a i * vS b m + a i * vS b j * B32 ^ i
structure MulI (N i m : Nat) (a b : Nat → Nat) (f : Nat → Nat) : Prop where
  lt : ∀ k, k < N → f k < B32
  zero : ∀ k, i + m ≤ k → f k = 0
  val : vS f N = vS a i * vS b m
theorem MulI.start (N m : Nat) (a b : Nat → Nat) : MulI N 0 m a b (fun _ => 0) :=
  ⟨fun _ _ => b32_pos, fun _ _ => rfl, by rw [vS_zero (m := 0) (Nat.zero_le _) fun _ _ _ => rfl]; unfold vS; rw [Nat.zero_mul]⟩
theorem MulI.inner {N i m : Nat} {a b f : Nat → Nat} (h : MulI N i m a b f) : MulJ N i m a b f 0 0 :=
  ⟨h.lt, h.zero, b32_pos, by rw [h.val, Nat.zero_mul]; show _ = _ + a i * 0 * _; rw [Nat.mul_zero, Nat.zero_mul]⟩
theorem mul_bound {x y u c : Nat} (hx : x < B32) (hy : y < B32) (hu : u < B32) (hc : c < B32) : x * y + u + c < B32 * B32 := by
  have h1 : x ≤ B32 - 1 := by omega
  have h2 : y ≤ B32 - 1 := by omega
  have h3 := Nat.mul_le_mul h1 h2
  have h4 : (B32 - 1) * (B32 - 1) + (B32 - 1) + (B32 - 1) < B32 * B32 := by decide
  omega
theorem MulJ.step {N i m : Nat} {a b f : Nat → Nat} {c j : Nat} (h : MulJ N i m a b f c j) (hj : j < m) (hN : i + m ≤ N) (ha : a i < B32) (hb : b j < B32) :
    MulJ N i m a b (upd f (i + j) ((a i * b j + f (i + j) + c) % B32)) ((a i * b j + f (i + j) + c) / B32) (j + 1) := by
  refine ⟨fun k hk => ?_, fun k hk => ?_, ?_, ?_⟩
  · unfold upd
    split
    · exact Nat.mod_lt _ b32_pos
    · exact h.lt k hk
  · unfold upd
    rw [if_neg (by omega)]
    exact h.zero k hk
  · exact Nat.div_lt_of_lt_mul (mul_bound ha hb (h.lt (i + j) (by omega)) h.cl)
  · have h1 := vS_upd (f := f) (j := i + j) (x := (a i * b j + f (i + j) + c) % B32) (n := N) (by omega)
    have h2 := h.val
    have h3 := Nat.div_add_mod (a i * b j + f (i + j) + c) B32
    generalize (a i * b j + f (i + j) + c) / B32 = q at *
    generalize (a i * b j + f (i + j) + c) % B32 = r at *
    generalize vS (upd f (i + j) r) N = V at *
    have h4 : (B32 * q + r) * B32 ^ (i + j) = (a i * b j + f (i + j) + c) * B32 ^ (i + j) := by rw [h3]
    have h5 : B32 ^ (i + (j + 1)) = B32 ^ (i + j) * B32 := by rw [← Nat.add_assoc, Nat.pow_succ]
    have h6 : B32 ^ (i + j) = B32 ^ j * B32 ^ i := by rw [Nat.add_comm, Nat.pow_add]
    have h7 : vS b (j + 1) = vS b j + b j * B32 ^ j := rfl
    rw [h5, h7]
    rw [Nat.add_mul] at h4
    rw [Nat.add_mul, Nat.add_mul] at h4
    have h8 : B32 * q * B32 ^ (i + j) = q * (B32 ^ (i + j) * B32) := by rw [Nat.mul_comm B32 q, Nat.mul_assoc, Nat.mul_comm B32]
    have h9 : a i * (vS b j + b j * B32 ^ j) * B32 ^ i = a i * vS b j * B32 ^ i + a i * b j * B32 ^ (i + j) := by
      rw [Nat.mul_add, Nat.add_mul, h6]
      simp only [Nat.mul_assoc]
    rw [h9]
    rw [h8] at h4
    omega
theorem MulJ.fin {N i m : Nat} {a b f : Nat → Nat} {c : Nat} (h : MulJ N i m a b f c m) (hN : i + m < N) : MulI N (i + 1) m a b (upd f (i + m) c) := by
  refine ⟨fun k hk => ?_, fun k hk => ?_, ?_⟩
  · unfold upd
    split
    · exact h.cl
    · exact h.lt k hk
  · unfold upd
    rw [if_neg (by omega)]
    exact h.zero k (by omega)
  · have h1 := vS_upd (f := f) (j := i + m) (x := c) (n := N) hN
    rw [h.zero (i + m) (Nat.le_refl _), Nat.zero_mul, Nat.add_zero] at h1
    rw [h1, h.val]
    show _ = (vS a i + a i * B32 ^ i) * vS b m
    rw [Nat.add_mul, Nat.mul_right_comm]
/-- Behind the zeros at the end. -/
structure ShrtI (f : Nat → Nat) (N n : Nat) : Prop where
  le : n ≤ N
  val : vS f n = vS f N
theorem ShrtI.step {f : Nat → Nat} {N n : Nat} (h : ShrtI f N (n + 1)) (h0 : f n = 0) : ShrtI f N n :=
  ⟨by have := h.le; omega, by rw [← h.val, show vS f (n + 1) = vS f n + f n * B32 ^ n from rfl, h0]; omega⟩
theorem ShrtI.fin {f : Nat → Nat} {N n : Nat} (h : ShrtI f N n) (hl : ∀ k, k < N → f k < B32) (h0 : ∀ m, n = m + 1 → f m ≠ 0) : Cano n f := ⟨fun k hk => hl k (by have := h.le; omega), h0⟩
end Go.Proofs.YtgfdhclpffakfaaGreat
