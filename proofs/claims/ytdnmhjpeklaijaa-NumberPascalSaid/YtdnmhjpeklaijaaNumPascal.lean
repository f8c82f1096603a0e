/- The walk of the law NumberPascal. -/
import Derived.Test.YtdnmhjpeklaijaaNumK
import Derived.Test.YtdnmhjpeklaijaaNumQ
namespace Go.Proofs.Ytdnmhjpeklaijaa
set_option linter.unusedVariables false
set_option linter.unusedSimpArgs false
open Go.RowKit

theorem bs_ones (n : Nat) : ∀ k, bs n 1 (k + 1) = bs n 1 k + choose n k := fun k => by simp [bs]

theorem choose_le_two (n k : Nat) (h : k ≤ n) : choose n k ≤ 2 ^ n := by
  have key : ∀ j, k < j → choose n k ≤ bs n 1 j := by
    intro j hj
    induction j with
    | zero => omega
    | succ j ih =>
      rw [bs_ones]
      rcases Nat.eq_or_lt_of_le (Nat.le_of_lt_succ hj) with e | e
      · subst e; omega
      · have := ih e; omega
  have h1 := key (n + 1) (by omega)
  rw [← binom 1 n] at h1
  exact h1

theorem choose_lim {v : Nat} (k : Nat) (hv : v ≤ 59) : (choose v k : Int) ≤ 576460752303423488 := by
  rcases Nat.lt_or_ge v k with h | h
  · rw [choose_big v k h]; omega
  · have h1 := choose_le_two v k h
    have h2 : 2 ^ v ≤ 2 ^ 59 := Nat.pow_le_pow_right (by omega) hv
    omega

theorem chooseS_62 {v k : Nat} (hv : v ≤ 60) : chooseS v k 4611686018427387904 = (((choose v k : Nat) : Int), 0) := by
  unfold chooseS
  rw [if_neg (by omega)]
  by_cases h : v < k
  · rw [if_pos (by omega), choose_big v k h]; rfl
  · rw [if_neg (by omega), Int.toNat_natCast, Int.toNat_natCast, if_pos]
    have h1 := choose_le_two v k (by omega)
    have h2 : 2 ^ v ≤ 2 ^ 60 := Nat.pow_le_pow_right (by omega) hv
    omega

theorem Choose62 (x y : Int) (X Y : Nat) (w : World) (hx : x = X) (hy : y = Y) (hX : X ≤ 60) (hY : Y ≤ 1000) :
    Calls Try.prog 33 #[.int .i64 x, .int .i64 y, .int .i64 4611686018427387904] w fun r w' => r = .returned (.tuple #[.int .i64 (choose X Y : Nat), .int .i64 0]) ∧ Ex w w' := by
  subst hx hy
  have := Choose_any X Y 4611686018427387904 w (by omega) (by omega) (by omega)
  rw [chooseS_62 hX] at this
  exact this

set_option maxRecDepth 100000 in
set_option maxHeartbeats 2000000 in
theorem NumberPascal_any (n k : Int) (w : World) (hn : 0 ≤ n ∧ n ≤ 255) (hk : 0 ≤ k ∧ k ≤ 255) :
    Calls Try.prog 10 #[.int .u8 n, .int .u8 k] w fun r w' => r = .returned (.bool true) ∧ Ex w w' := by
  obtain ⟨n0, n1⟩ := hn
  obtain ⟨k0, k1⟩ := hk
  obtain ⟨v, hv⟩ : ∃ v : Nat, n % 60 = (v : Int) := ⟨(n % 60).toNat, by omega⟩
  obtain ⟨m, hm⟩ : ∃ m : Nat, k % 60 = (m : Int) := ⟨(k % 60).toNat, by omega⟩
  have v2 : v ≤ 59 := by omega
  have m2 : m ≤ 59 := by omega
  have hp59 : ∀ j, j ≤ v → choose v j ≤ 2 ^ 59 := fun j hj => Nat.le_trans (choose_le_two v j hj) (Nat.pow_le_pow_right (by omega) v2)
  have HB := hid_ (fun j (hj : j ≤ v) => (show choose v j ≤ 576460752303423488 from hp59 j hj))
  have HS := hid_ (fun i j (hj : i + j = v) => (hj ▸ choose_symm i j : choose v i = choose v j))
  have hrow : bs v 1 (v + 1) = 2 ^ v := (binom 1 v).symm
  have HR := hid_ hrow
  have HE := hid_ (show expS 2 v 4611686018427387904 = (((bs v 1 (v + 1) : Nat) : Int), 0) by
    unfold expS
    rw [if_neg (by omega), Int.toNat_natCast, hrow]
    have : (2 : Int) ^ v = ((2 ^ v : Nat) : Int) := by simp
    have h2 : 2 ^ v ≤ 2 ^ 59 := Nat.pow_le_pow_right (by omega) v2
    rw [this, if_pos (by omega)])
  have HRB := hid_ (show ∀ j, j ≤ v + 1 → bs v 1 j ≤ 576460752303423488 from by
    have key : ∀ i j, bs v 1 j ≤ bs v 1 (j + i) := by
      intro i j
      induction i with
      | zero => exact Nat.le_refl _
      | succ i ih => rw [← Nat.add_assoc, bs_ones]; omega
    intro j hj
    have := key (v + 1 - j) j
    rw [show j + (v + 1 - j) = v + 1 by omega, hrow] at this
    exact Nat.le_trans this (Nat.pow_le_pow_right (by omega) v2))
  have hab : (choose v m : Int) + (choose v (m + 1) : Int) = (choose (v + 1) (m + 1) : Int) := by rw [choose_succ]; omega
  have A1 := choose_lim m v2
  have A2 := choose_lim (m + 1) v2
  go_enter Try.func10, Try.ntmps10
  go_wp2_with fail
  refine (awake_any _).mono ?_
  rintro e w1 ⟨rfl, hx1⟩
  go_wp2_with fail
  refine (Choose62 _ _ v m _ rfl rfl (by omega) (by omega)).mono ?_
  rintro e w2 ⟨rfl, hx2⟩
  go_wp2_with fail
  refine (Choose62 _ _ v (m + 1) _ rfl (by go_num) (by omega) (by omega)).mono ?_
  rintro e w3 ⟨rfl, hx3⟩
  go_wp2_with fail
  refine (Choose62 _ _ (v + 1) (m + 1) _ (by go_num) (by go_num) (by omega) (by omega)).mono ?_
  rintro e w4 ⟨rfl, hx4⟩
  go_wp2_with fail
  go_loopw [13, 14] (fun s' i' wr => ∃ i : Nat, s' = .int .i64 (bs v 1 i : Nat) ∧ i' = .int .i64 i ∧ i ≤ v + 1 ∧ Ex w4 wr) (fun _ i' _ => v + 1 - (intOf i').toNat)
  case atStart => exact ⟨0, rfl, rfl, by omega, Ex.refl _⟩
  case round =>
    obtain ⟨i, rfl, rfl, hi, hx⟩ := hrel
    by_cases hlt : i ≤ v
    · have hst := bs_ones v i
      have HST := hid_ hst
      have b1 := HRB.out i hi
      have b2 := HB.out i hlt
      have hsy := HS.out i (v - i) (by omega)
      have HSY := hid_ hsy
      have hvi : (v : Int) - (i : Int) = ((v - i : Nat) : Int) := by omega
      clear hst hsy
      go_wp2_with fail
      refine (Choose62 _ _ v i _ rfl rfl (by omega) (by omega)).mono ?_
      rintro e w5 ⟨rfl, hx5⟩
      go_wp2_with fail
      refine (Choose62 _ _ v (v - i) _ rfl (by go_num) (by omega) (by omega)).mono ?_
      rintro e w6 ⟨rfl, hx6⟩
      rw [← HSY.out]
      go_wp2_with fail
      go_roundw
      case rel => exact ⟨i + 1, by rw [HST.out]; go_num, by go_num, by omega, (hx.trans hx5).trans hx6⟩
      case measure => simp [intOf]; omega
    · obtain rfl : i = v + 1 := by omega
      go_wp2_with fail
      refine (Exp_any 2 v 4611686018427387904 _ (by omega) (by omega) (by omega)).mono ?_
      rw [HE.out]
      rintro e w5 ⟨rfl, hx5⟩
      go_wp2_with fail
      go_ret
      exact ⟨rfl, ((((hx1.trans hx2).trans hx3).trans hx4).trans hx).trans hx5⟩
end Go.Proofs.Ytdnmhjpeklaijaa
