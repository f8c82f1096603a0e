/- Walks of the references: scalars. -/
import Derived.Test.YtdnmhjpeklaijaaNumG
namespace Go.Proofs.Ytdnmhjpeklaijaa
set_option linter.unusedVariables false
set_option linter.unusedSimpArgs false
open Go.RowKit

set_option maxHeartbeats 400000 in
theorem rin_any (n : Int) (w : World) :
    Calls Try.prog 53 #[.int .i64 n] w fun e w' => e = .returned (.bool (inB 1 n)) ∧ w = w' := by
  by_cases h : 1 ≤ n
  · go_enter Try.func53, Try.ntmps53
    go_wp2
    go_ret
    exact ⟨by simp [inB, h], rfl⟩
  · have h' : n < 1 := by omega
    go_enter Try.func53, Try.ntmps53
    go_wp2
    go_ret
    exact ⟨by simp [inB]; omega, rfl⟩

set_option maxHeartbeats 400000 in
theorem rmod_any (a n : Int) (w : World) (hn : 1 ≤ n) (hn' : n ≤ 2147483647) (ha : -9223372036854775808 ≤ a) (ha' : a ≤ 9223372036854775807) :
    Calls Try.prog 28 #[.int .i64 a, .int .i64 n] w fun e w' => e = .returned (.int .i64 (a % n)) ∧ w = w' := by
  have h1 := Int.tmod_lt_of_pos a (b := n) (by omega)
  have h2 : -n < a.tmod n := by have := Int.lt_tmod_of_pos a (b := n) (by omega); omega
  have H3 := hid_ (tmod_fix a n (by omega))
  go_enter Try.func28, Try.ntmps28
  go_wp2
  · go_ret
    rw [H3.out, if_pos (by assumption)]
    exact ⟨rfl, rfl⟩
  · go_ret
    rw [H3.out, if_neg (by omega)]
    exact ⟨rfl, rfl⟩

set_option maxHeartbeats 400000 in
theorem rgcd_any (a b : Nat) (w : World) (ha : a ≤ 9223372036854775807) (hb : b ≤ 9223372036854775807) :
    Calls Try.prog 59 #[.int .i64 a, .int .i64 b] w fun e w' => e = .returned (.int .i64 (Nat.gcd a b : Nat)) ∧ Ex w w' := by
  go_enter Try.func59, Try.ntmps59
  go_wp2
  go_loopw [0, 1] (fun x y wr => ∃ p q : Nat, p ≤ 9223372036854775807 ∧ q ≤ 9223372036854775807 ∧ x = .int .i64 p ∧ y = .int .i64 q ∧ Hid (Nat.gcd p q = Nat.gcd a b) ∧ Ex w wr) (fun _ y _ => (intOf y).toNat)
  case atStart => exact ⟨a, b, ha, hb, rfl, rfl, hid_ rfl, Ex.refl _⟩
  case round =>
    obtain ⟨p, q, hp, hq, rfl, rfl, hg, hbel⟩ := hrel
    by_cases hz : q = 0
    · subst hz
      go_wp2
      go_ret
      have := hg.out
      rw [Nat.gcd_zero_right] at this
      exact ⟨ret_int (by rw [this]), hbel⟩
    · have hz' : ((q : Int) == 0) = false := by simp; omega
      have hz2 : ((q : Int) != 0) = true := by simp; omega
      have hq1 : 1 ≤ q := by omega
      go_wp2
      go_region
      all_goals
        go_wp2
        go_roundw
        case rel => exact ⟨q, p % q, hq, by have := Nat.mod_lt p hq1; omega, rfl, by go_num, hid_ (by rw [← hg.out, Nat.gcd_comm p q, Nat.gcd_rec q p, Nat.gcd_comm]), hbel.drew⟩
        case measure => simp [intOf]; have := Nat.mod_lt p hq1; omega

set_option maxHeartbeats 400000 in
theorem rabs_any (a : Int) (w : World) (h : -2147483647 ≤ a) (h' : a ≤ 2147483647) :
    Calls Try.prog 68 #[.int .i64 a] w fun e w' => e = .returned (.int .i64 a.natAbs) ∧ w = w' := by
  go_enter Try.func68, Try.ntmps68
  go_wp2
  all_goals
    go_ret
    exact ⟨ret_int (by omega), rfl⟩

set_option maxHeartbeats 400000 in
theorem rsmall_any (a : Int) (w : World) :
    Calls Try.prog 67 #[.int .i64 a] w fun e w' => e = .returned (.bool (decide (small a))) ∧ w = w' := by
  by_cases h : -2147483647 ≤ a
  · go_enter Try.func67, Try.ntmps67
    go_wp2
    go_ret
    exact ⟨by simp [small, h], rfl⟩
  · have h' : a < -2147483647 := by omega
    go_enter Try.func67, Try.ntmps67
    go_wp2
    go_ret
    exact ⟨ret_bool (by symm; rw [decide_eq_false_iff_not]; unfold small; omega), rfl⟩

set_option maxHeartbeats 1000000 in
theorem rGcd_any (a b : Int) (w : World) :
    Calls Try.prog 36 #[.int .i64 a, .int .i64 b] w fun r w' => r = .returned (.tuple #[.int .i64 (gcdS a b).1, .int .i64 (gcdS a b).2]) ∧ Ex w w' := by
  by_cases h1 : small a
  · have g1 : decide (small a) = true := by simp [h1]
    by_cases h2 : small b
    · have HS := hid_ (show gcdS a b = (((Int.gcd a b : Nat) : Int), 0) by simp [gcdS, h1, h2])
      have g2 : decide (small b) = true := by simp [h2]
      have h1' := h1
      have h2' := h2
      unfold small at h1' h2'
      obtain ⟨a1, a2⟩ := h1'
      obtain ⟨b1, b2⟩ := h2'
      clear h1 h2
      go_enter Try.func36, Try.ntmps36
      go_wp2_with (first | (go_at_call_of 67 a; refine (rsmall_any a _).mono ?_; rintro e w1 ⟨rfl, rfl⟩) | (go_at_call_of 67 b; refine (rsmall_any b _).mono ?_; rintro e w1 ⟨rfl, rfl⟩) | (go_at_call_of 68 a; refine (rabs_any a _ a1 a2).mono ?_; rintro e w1 ⟨rfl, rfl⟩) | (go_at_call_of 68 b; refine (rabs_any b _ b1 b2).mono ?_; rintro e w1 ⟨rfl, rfl⟩) | (go_at_call 59; refine (rgcd_any _ _ _ (by omega) (by omega)).mono ?_; rintro e w1 ⟨rfl, hx⟩))
      go_ret2
      rw [HS.out]
      exact ⟨rfl, hx⟩
    · have HS := hid_ (show gcdS a b = (0, 6) by simp [gcdS, h2])
      have g2 : decide (small b) = false := by simp [h2]
      clear h1 h2
      go_enter Try.func36, Try.ntmps36
      go_wp2_with (first | (go_at_call_of 67 a; refine (rsmall_any a _).mono ?_; rintro e w1 ⟨rfl, rfl⟩) | (go_at_call_of 67 b; refine (rsmall_any b _).mono ?_; rintro e w1 ⟨rfl, rfl⟩))
      go_ret2
      rw [HS.out]
      exact ⟨rfl, Ex.refl _⟩
  · have HS := hid_ (show gcdS a b = (0, 6) by simp [gcdS, h1])
    have g1 : decide (small a) = false := by simp [h1]
    clear h1
    go_enter Try.func36, Try.ntmps36
    go_wp2_with (first | (go_at_call_of 67 a; refine (rsmall_any a _).mono ?_; rintro e w1 ⟨rfl, rfl⟩))
    go_ret2
    rw [HS.out]
    exact ⟨rfl, Ex.refl _⟩

set_option maxHeartbeats 1000000 in
theorem rinv_any (a n : Int) (w : World) (h1 : 1 ≤ n) (h2 : n ≤ 2147483647) (ha : -9223372036854775808 ≤ a) (ha' : a ≤ 9223372036854775807) :
    Calls Try.prog 54 #[.int .i64 a, .int .i64 n] w fun e w' => e = .returned (.int .i64 (invI a n)) ∧ w = w' := by
  have m0 := Int.emod_nonneg a (b := n) (by omega)
  have m1 := Int.emod_lt_of_pos a (b := n) (by omega)
  go_enter Try.func54, Try.ntmps54
  go_wp2_with (go_at_call 28; refine (rmod_any _ _ _ h1 h2 ha ha').mono ?_; rintro e w1 ⟨rfl, rfl⟩)
  go_loop [5, 6, 7, 8] (fun r' s' u' v' => ∃ r s u v : Int, r' = .int .i64 r ∧ s' = .int .i64 s ∧ u' = .int .i64 u ∧ v' = .int .i64 v ∧ HalfInv (a % n) n r s u v) (fun _ s' _ _ => (intOf s').toNat)
  case atStart => exact ⟨_, _, _, _, rfl, rfl, rfl, rfl, HalfInv.start2 (a % n) n m0 m1⟩
  case round =>
    obtain ⟨r, s, u, v, rfl, rfl, rfl, rfl, hi⟩ := hrel
    have b1 := hi.r0
    have b2 := hi.s0
    have b3 := hi.rn
    have b4 := hi.sn
    by_cases hz : s = 0
    · subst hz
      obtain ⟨c1, c2⟩ := hi.out (by omega) m1 m0
      obtain ⟨c4, c5⟩ := hi.ul
      by_cases hr : r = 1
      · have hr1 : (r != 1) = false := by rw [hr]; rfl
        have HV := hid_ (show invI a n = u % n by
          unfold invI
          rw [if_pos (by omega), ← c2, hr, Int.ediv_one])
        clear c1 c2 hr
        go_wp2_with (go_at_call 28; refine (rmod_any _ _ _ h1 h2 (by omega) (by omega)).mono ?_; rintro e w1 ⟨rfl, rfl⟩)
        go_ret
        exact ⟨ret_int HV.out.symm, rfl⟩
      · have hr1 : (r != 1) = true := by simp [hr]
        have HV := hid_ (show invI a n = -1 by
          unfold invI
          rw [if_neg (by omega)])
        clear c1 c2 hr
        go_wp2
        go_ret
        exact ⟨ret_int HV.out.symm, rfl⟩
    · have hz' : (s == 0) = false := by simp; omega
      have hz2 : (s != 0) = true := by simp; omega
      obtain ⟨c1, c2, c3, c4, c5, c6⟩ := hi.lims (by omega)
      have hnx := hi.next (by omega)
      have d1 := hnx.s0
      have d2 := hnx.sn
      obtain ⟨d4, d5⟩ := hnx.vl
      go_wp2
      go_round
      case rel => exact ⟨_, _, _, _, rfl, rfl, rfl, rfl, hnx⟩
      case measure => simp [intOf]; have := Int.emod_lt_of_pos r (b := s) (by omega); rw [Int.emod_def, Int.mul_comm] at this; omega

theorem invI_rng (a n : Int) (h1 : 1 ≤ n) : -1 ≤ invI a n ∧ invI a n < n := by
  unfold invI
  split
  · have := halfX_lims (Int.emod_nonneg a (b := n) (by omega)) (Int.emod_lt_of_pos a (by omega))
    omega
  · omega

set_option maxHeartbeats 1000000 in
theorem rInverse_any (a n : Int) (w : World) (ha : -9223372036854775808 ≤ a) (ha' : a ≤ 9223372036854775807) :
    Calls Try.prog 21 #[.int .i64 a, .int .i64 n] w fun e w' => e = .returned (.tuple #[.int .i64 (inverseS a n).1, .int .i64 (inverseS a n).2]) ∧ w = w' := by
  by_cases hr : 1 ≤ n ∧ n ≤ 2147483647
  · obtain ⟨h1, h2⟩ := hr
    have hin : inB 1 n = true := inB_mk h1 h2
    have HS := hid_ (inverseS_inv a n h1 h2)
    by_cases hi : invI a n < 0
    · go_enter Try.func21, Try.ntmps21
      go_wp2_with (first | (go_at_call 53; refine (rin_any _ _).mono ?_; rintro e w1 ⟨rfl, rfl⟩) | (go_at_call 54; refine (rinv_any _ _ _ h1 h2 ha ha').mono ?_; rintro e w1 ⟨rfl, rfl⟩))
      go_ret2
      rw [HS.out, if_pos hi]
      exact ⟨rfl, rfl⟩
    · have hi' : 0 ≤ invI a n := by omega
      go_enter Try.func21, Try.ntmps21
      go_wp2_with (first | (go_at_call 53; refine (rin_any _ _).mono ?_; rintro e w1 ⟨rfl, rfl⟩) | (go_at_call 54; refine (rinv_any _ _ _ h1 h2 ha ha').mono ?_; rintro e w1 ⟨rfl, rfl⟩))
      go_ret2
      rw [HS.out, if_neg (by omega)]
      exact ⟨rfl, rfl⟩
  · have hin : inB 1 n = false := inB_false hr
    have HS := hid_ (show inverseS a n = (0, 6) by simp [inverseS]; omega)
    clear hr
    go_enter Try.func21, Try.ntmps21
    go_wp2_with (first | (go_at_call 53; refine (rin_any _ _).mono ?_; rintro e w1 ⟨rfl, rfl⟩))
    go_ret2
    rw [HS.out]
    exact ⟨rfl, rfl⟩

set_option maxHeartbeats 1000000 in
theorem rpower_any (a e n : Int) (w : World) (hn : 1 ≤ n) (hn' : n ≤ 2147483647) (ha0 : -9223372036854775808 ≤ a) (ha : a ≤ 9223372036854775807) (he0 : 0 ≤ e) (he : e ≤ 9223372036854775807) :
    Calls Try.prog 56 #[.int .i64 a, .int .i64 e, .int .i64 n] w fun r w' => r = .returned (.int .i64 (a ^ e.toNat % n)) ∧ w = w' := by
  have q0 := Int.emod_nonneg 1 (b := n) (by omega)
  have q1 := Int.emod_lt_of_pos 1 (b := n) (by omega)
  have m0 := Int.emod_nonneg a (b := n) (by omega)
  have m1 := Int.emod_lt_of_pos a (b := n) (by omega)
  go_enter Try.func56, Try.ntmps56
  go_wp2_with (first | (go_at_call_of 28 a; refine (rmod_any a _ _ hn hn' ha0 ha).mono ?_; rintro e w1 ⟨rfl, rfl⟩) | (go_at_call 28; refine (rmod_any 1 _ _ hn hn' (by omega) (by omega)).mono ?_; rintro e w1 ⟨rfl, rfl⟩))
  have h0 : Hid (1 % n * (a % n) ^ e.toNat % n = a ^ e.toNat % n) := hid_ (by rw [Int.mul_emod, Int.emod_emod_of_dvd _ (Int.dvd_refl n), ← Int.mul_emod, Int.one_mul, pow_emod_])
  generalize 1 % n = o0 at *
  generalize a % n = x0 at *
  go_loop [1, 7, 8] (fun e' a' o' => ∃ x y o : Int, a' = .int .i64 x ∧ e' = .int .i64 y ∧ o' = .int .i64 o ∧ 0 ≤ x ∧ x < n ∧ 0 ≤ y ∧ y ≤ 9223372036854775807 ∧ 0 ≤ o ∧ o < n ∧ Hid (o * x ^ y.toNat % n = a ^ e.toNat % n)) (fun e' _ _ => (intOf e').toNat)
  case atStart => exact ⟨_, _, _, rfl, rfl, rfl, m0, m1, he0, he, q0, q1, h0⟩
  case round =>
    clear h0
    obtain ⟨x, y, o, rfl, rfl, rfl, x0, x1, y0, y1, o0, o1, hp⟩ := hrel
    have p1 : 0 ≤ o * x := Int.mul_nonneg o0 x0
    have p2 : o * x ≤ 4611686014132420609 := by
      have := Int.mul_le_mul (show o ≤ 2147483647 by omega) (show x ≤ 2147483647 by omega) x0 (by omega)
      omega
    have p3 : 0 ≤ x * x := Int.mul_nonneg x0 x0
    have p4 : x * x ≤ 4611686014132420609 := by
      have := Int.mul_le_mul (show x ≤ 2147483647 by omega) (show x ≤ 2147483647 by omega) x0 (by omega)
      omega
    by_cases hy : 0 < y
    · by_cases hodd : y % 2 = 1
      · have hb : (y % 2 == 1) = true := by rw [hodd]; rfl
        have HO := hid_ hodd; clear hodd
        go_wp2
        go_round
        case rel => exact ⟨_, _, _, rfl, rfl, rfl, Int.emod_nonneg _ (by omega), Int.emod_lt_of_pos _ (by omega), by omega, by omega, Int.emod_nonneg _ (by omega), Int.emod_lt_of_pos _ (by omega), hid_ (by rw [powStep_odd, show 2 * (y / 2).toNat + 1 = y.toNat by have := HO.out; omega]; exact hp.out)⟩
        case measure => simp [intOf]; omega
      · have hb : (y % 2 == 1) = false := by simp; omega
        have HO := hid_ hodd; clear hodd
        go_wp2
        go_round
        case rel => exact ⟨_, _, _, rfl, rfl, rfl, Int.emod_nonneg _ (by omega), Int.emod_lt_of_pos _ (by omega), by omega, by omega, o0, o1, hid_ (by rw [powStep_even, show 2 * (y / 2).toNat = y.toNat by have := HO.out; omega]; exact hp.out)⟩
        case measure => simp [intOf]; omega
    · have hy0 : y = 0 := by omega
      have hq := hp.out
      rw [hy0] at hq
      have hq' : o = a ^ e.toNat % n := by simp at hq; rw [← hq]; exact (Int.emod_eq_of_lt o0 o1).symm
      have HQ := hid_ hq'; clear hq' hq hy0
      go_wp2
      go_ret
      exact ⟨ret_int HQ.out, rfl⟩

set_option maxHeartbeats 1000000 in
theorem rPower_any (a e n : Int) (w : World) (ha : -9223372036854775808 ≤ a) (ha' : a ≤ 9223372036854775807) (he : e ≤ 9223372036854775807) :
    Calls Try.prog 23 #[.int .i64 a, .int .i64 e, .int .i64 n] w fun r w' => r = .returned (.tuple #[.int .i64 (powerS a e n).1, .int .i64 (powerS a e n).2]) ∧ w = w' := by
  by_cases hr : 1 ≤ n ∧ n ≤ 2147483647
  · obtain ⟨h1, h2⟩ := hr
    have hin : inB 1 n = true := inB_mk h1 h2
    by_cases he0 : 0 ≤ e
    · have HS := hid_ (show powerS a e n = (a ^ e.toNat % n, 0) by simp [powerS, h1, h2, he0])
      go_enter Try.func23, Try.ntmps23
      go_wp2_with (first | (go_at_call 53; refine (rin_any _ _).mono ?_; rintro e w1 ⟨rfl, rfl⟩) | (go_at_call 56; refine (rpower_any _ _ _ _ h1 h2 ha ha' he0 he).mono ?_; rintro e w1 ⟨rfl, rfl⟩))
      go_ret2
      rw [HS.out]
      exact ⟨rfl, rfl⟩
    · have HS := hid_ (show powerS a e n = (0, 6) by simp [powerS]; omega)
      have he1 : e < 0 := by omega
      go_enter Try.func23, Try.ntmps23
      go_wp2_with (first | (go_at_call 53; refine (rin_any _ _).mono ?_; rintro e w1 ⟨rfl, rfl⟩))
      go_ret2
      rw [HS.out]
      exact ⟨rfl, rfl⟩
  · have hin : inB 1 n = false := inB_false hr
    have HS := hid_ (show powerS a e n = (0, 6) by simp [powerS]; omega)
    clear hr
    go_enter Try.func23, Try.ntmps23
    go_wp2_with (go_at_call 53; refine (rin_any _ _).mono ?_; rintro e w1 ⟨rfl, rfl⟩)
    go_ret2
    rw [HS.out]
    exact ⟨rfl, rfl⟩

set_option maxHeartbeats 1000000 in
theorem rBezout_any (a b : Int) (w : World) :
    Calls Try.prog 38 #[.int .i64 a, .int .i64 b] w fun r w' => r = .returned (.tuple #[.int .i64 (bezS a b).1, .int .i64 (bezS a b).2.1, .int .i64 (bezS a b).2.2.1, .int .i64 (bezS a b).2.2.2]) ∧ Ex w w' := by
  have HGc := fun w => hid_ (rGcd_any a b w)
  by_cases hr : small a ∧ small b
  · have hr0 := hr
    obtain ⟨h1, h2⟩ := hr
    have hg : gcdS a b = (((Int.gcd a b : Nat) : Int), 0) := by simp [gcdS, hr0]
    rw [hg] at HGc
    have h2' := h2
    unfold small at h1 h2
    obtain ⟨a1, a2⟩ := h1
    obtain ⟨b1, b2⟩ := h2
    by_cases hb : b = 0
    · subst hb
      have HS := hid_ (show bezS a 0 = (if 0 < a then (a, 1, 0, 0) else if a < 0 then (-a, -1, 0, 0) else (0, 0, 0, 0)) by simp [bezS, hr0])
      clear hr0 h2' hg
      go_enter Try.func38, Try.ntmps38
      go_wp2_with fail
      refine (HGc _).out.mono ?_
      rintro e w1 ⟨rfl, hx⟩
      go_wp2
      all_goals
        refine bodyPost_ret (results_tmp4 rfl _ _) rfl ?_
        rw [HS.out]
      · rw [if_pos (by assumption)]; exact ⟨ret_4 (by simp only; omega) rfl rfl rfl, hx⟩
      · rw [if_neg (by omega), if_pos (by assumption)]; exact ⟨ret_4 (by simp only; omega) rfl rfl rfl, hx⟩
      · rw [if_neg (by omega), if_neg (by omega)]; exact ⟨rfl, hx⟩
    · obtain ⟨n1, n2⟩ := natAbs_rng h2' hb
      have bne : (b == 0) = false := by simp [hb]
      have m0 := Int.emod_nonneg a (b := (b.natAbs : Int)) (by omega)
      have m1 := Int.emod_lt_of_pos a (b := (b.natAbs : Int)) (by omega)
      obtain ⟨l1, l2, l3, l4⟩ := halfX_lims m0 m1
      have hS : bezS a b = (((Int.gcd (a % (b.natAbs : Int)) (b.natAbs : Int) : Nat) : Int), halfX (a % (b.natAbs : Int)) b.natAbs,
        (((Int.gcd (a % (b.natAbs : Int)) (b.natAbs : Int) : Nat) : Int) - a * halfX (a % (b.natAbs : Int)) b.natAbs).tdiv b, 0) := by simp [bezS, hr0, hb]
      rw [gcd_emod_natAbs] at hS l1 l2
      have hbx := bez_x a b (Int.gcd a b) hb rfl
      obtain ⟨p1, p2⟩ := mul_lim a1 a2 l3 (by omega)
      have HS := hid_ hS
      obtain ⟨g, hgg⟩ : ∃ g : Int, (Int.gcd a b : Int) = g := ⟨_, rfl⟩
      have hga : g ∣ a := by rw [← hgg]; exact Int.gcd_dvd_left a b
      have hgb : g ∣ (b.natAbs : Int) := by rw [← hgg]; exact Int.dvd_natAbs.2 (Int.gcd_dvd_right a b)
      have t1 : -2147483647 ≤ a.tdiv g ∧ a.tdiv g ≤ 2147483647 := by
        have h3 : (a.tdiv g).natAbs ≤ a.natAbs := by rw [Int.natAbs_tdiv]; exact Nat.div_le_self _ _
        omega
      have t2 : 1 ≤ (b.natAbs : Int).tdiv g ∧ (b.natAbs : Int).tdiv g ≤ 2147483647 := by
        obtain ⟨m, hm⟩ := hgb
        have e2 : (b.natAbs : Int).tdiv g = m := by rw [hm]; exact Int.mul_tdiv_cancel_left _ (by omega)
        have h5 := pos_of_mul_pos (r := g) (m := m) (by omega) (by omega)
        have h6 : 1 * m ≤ g * m := Int.mul_le_mul_of_nonneg_right (by omega) (by omega)
        omega
      have HWR := hid_ (show wrap64 ((b.natAbs : Int) / g) = (b.natAbs : Int).tdiv g by rw [Int.tdiv_eq_ediv_of_nonneg (by omega)] at t2 ⊢; exact w64 (by omega) (by omega))
      obtain ⟨t3, t4⟩ := t1
      obtain ⟨t5, t6⟩ := t2
      rw [hgg] at HGc hbx HS l1 l2
      have hb' : ¬ b = 0 := hb
      have HBX := hid_ hbx
      have HI := fun w => hid_ (rinv_any (a.tdiv g) ((b.natAbs : Int).tdiv g) w t5 t6 (by omega) (by omega))
      rw [hbx] at HI
      generalize halfX (a % (b.natAbs : Int)) b.natAbs = x at *
      clear hr0 h2' hb hg hS hgg hga hgb hbx
      go_enter Try.func38, Try.ntmps38
      go_wp2_with fail
      refine (HGc _).out.mono ?_
      rintro e w1 ⟨rfl, hx⟩
      go_wp2_with fail
      go_quiet ((first | (go_at_call 68; with_reducible exact quiet_left (rabs_any b _ b1 b2)) | (go_at_call 54; rw [HWR.out]; with_reducible exact quiet_left (HI _).out)))
      go_wp2_with fail
      go_quiet (fail)
      go_wp2
      refine bodyPost_ret (results_tmp4 rfl _ _) rfl ?_
      rw [HS.out]
      exact ⟨ret_4 rfl rfl (wrap_tdiv _ _ (by omega) (by omega)) rfl, (hx.drewN _).drewN _⟩
  · have HS := hid_ (show bezS a b = (0, 0, 0, 6) by simp only [bezS, if_neg hr])
    have hg : gcdS a b = (0, 6) := by simp only [gcdS, if_neg hr]
    rw [hg] at HGc
    clear hr hg
    go_enter Try.func38, Try.ntmps38
    go_wp2_with fail
    refine (HGc _).out.mono ?_
    rintro e w1 ⟨rfl, hx⟩
    go_wp2
    refine bodyPost_ret (results_tmp4 rfl _ _) rfl ?_
    rw [HS.out]
    exact ⟨rfl, hx⟩

end Go.Proofs.Ytdnmhjpeklaijaa
