
/- Walks of the small scalar functions. -/
import Derived.Test.YtdnmhjpeklaijaaLib
import Derived.Test.YtdnmhjpeklaijaaNumM
namespace Go.Proofs.Ytdnmhjpeklaijaa
set_option linter.unusedVariables false
set_option linter.unusedSimpArgs false
open Go.RowKit

def inB (lo n : Int) : Bool := decide (lo ≤ n) && decide (n ≤ 2147483647)

set_option maxHeartbeats 400000 in
theorem in_any (n lo : Int) (w : World) :
    Calls Try.prog 49 #[.int .i64 n, .int .i64 lo] w fun e w' => e = .returned (.bool (inB lo n)) ∧ w = w' := by
  by_cases h : lo ≤ n
  · go_enter Try.func49, Try.ntmps49
    go_wp2
    go_ret
    exact ⟨by simp [inB, h], rfl⟩
  · have h' : n < lo := by omega
    go_enter Try.func49, Try.ntmps49
    go_wp2
    go_ret
    exact ⟨by simp [inB]; omega, rfl⟩

set_option maxHeartbeats 400000 in
theorem mod_any (a n : Int) (w : World) (hn : 1 ≤ n) (hn' : n ≤ 2147483647) (ha : -9223372036854775808 ≤ a) (ha' : a ≤ 9223372036854775807) :
    Calls Try.prog 52 #[.int .i64 a, .int .i64 n] w fun e w' => e = .returned (.int .i64 (a % n)) ∧ w = w' := by
  have h1 := Int.tmod_lt_of_pos a (b := n) (by omega)
  have h2 : -n < a.tmod n := by have := Int.lt_tmod_of_pos a (b := n) (by omega); omega
  have h3 : a % n = if a.tmod n < 0 then a.tmod n + n else a.tmod n := tmod_fix a n (by omega)
  have H3 := hid_ h3; clear h3
  go_enter Try.func52, Try.ntmps52
  go_wp2
  · go_ret
    rw [H3.out, if_pos (by assumption)]
    exact ⟨rfl, rfl⟩
  · go_ret
    rw [H3.out, if_neg (by omega)]
    exact ⟨rfl, rfl⟩

set_option maxHeartbeats 400000 in
theorem gcd_any (a b : Nat) (w : World) (ha : a ≤ 9223372036854775807) (hb : b ≤ 9223372036854775807) :
    Calls Try.prog 57 #[.int .i64 a, .int .i64 b] w fun e w' => e = .returned (.int .i64 (Nat.gcd a b : Nat)) ∧ Ex w w' := by
  go_enter Try.func57, Try.ntmps57
  go_wp2
  go_loopw [0, 1] (fun x y wr => ∃ p q : Nat, p ≤ 9223372036854775807 ∧ q ≤ 9223372036854775807 ∧ x = .int .i64 p ∧ y = .int .i64 q ∧ Hid (Nat.gcd p q = Nat.gcd a b) ∧ Ex w wr) (fun _ y _ => (intOf y).toNat)
  case atStart => exact ⟨a, b, ha, hb, rfl, rfl, hid_ rfl, Ex.refl _⟩
  case round =>
    obtain ⟨p, q, hp, hq, rfl, rfl, hg, hbel⟩ := hrel
    by_cases hz : q = 0
    · subst hz
      go_wp2
      go_ret
      have := hg.out
      rw [Nat.gcd_zero_right] at this
      exact ⟨ret_int (by rw [this]), hbel⟩
    · have hz' : ((q : Int) == 0) = false := by simp; omega
      have hz2 : ((q : Int) != 0) = true := by simp; omega
      have hq1 : 1 ≤ q := by omega
      go_wp2
      go_region
      all_goals
        go_wp2
        go_roundw
        case rel => exact ⟨q, p % q, hq, by have := Nat.mod_lt p hq1; omega, rfl, by go_num, hid_ (by rw [← hg.out, Nat.gcd_comm p q, Nat.gcd_rec q p, Nat.gcd_comm]), hbel.drew⟩
        case measure => simp [intOf]; have := Nat.mod_lt p hq1; omega

set_option maxHeartbeats 400000 in
theorem abs_any (a : Int) (w : World) (h : -2147483647 ≤ a) (h' : a ≤ 2147483647) :
    Calls Try.prog 66 #[.int .i64 a] w fun e w' => e = .returned (.int .i64 a.natAbs) ∧ w = w' := by
  go_enter Try.func66, Try.ntmps66
  go_wp2
  all_goals
    go_ret
    exact ⟨ret_int (by omega), rfl⟩

set_option maxHeartbeats 400000 in
theorem both_any (a b : Int) (w : World) :
    Calls Try.prog 65 #[.int .i64 a, .int .i64 b] w fun e w' => e = .returned (.bool (inB (-2147483647) a && inB (-2147483647) b)) ∧ w = w' := by
  cases h : inB (-2147483647) a
  all_goals
    go_enter Try.func65, Try.ntmps65
    go_wp2_with (go_at_call 49; refine (in_any _ _ _).mono ?_; rintro e w1 ⟨rfl, rfl⟩)
    go_ret
    exact ⟨ret_bool (by simp [h]), rfl⟩

theorem inB_true {lo n : Int} (h : inB lo n = true) : lo ≤ n ∧ n ≤ 2147483647 := by simpa [inB] using h
theorem inB_mk {lo n : Int} (h : lo ≤ n) (h' : n ≤ 2147483647) : inB lo n = true := by simp [inB, h, h']

set_option maxHeartbeats 1000000 in
theorem half_any (a n : Int) (w : World) (h0 : 0 ≤ a) (h1 : a < n) (h2 : n ≤ 2147483647) :
    Calls Try.prog 51 #[.int .i64 a, .int .i64 n] w fun e w' => e = .returned (.tuple #[.int .i64 (Int.gcd a n), .int .i64 (halfX a n)]) ∧ w = w' := by
  go_enter Try.func51, Try.ntmps51
  go_wp2
  go_loop [6, 7, 8, 9] (fun r' s' u' v' => ∃ r s u v : Int, r' = .int .i64 r ∧ s' = .int .i64 s ∧ u' = .int .i64 u ∧ v' = .int .i64 v ∧ HalfInv a n r s u v) (fun _ s' _ _ => (intOf s').toNat)
  case atStart => exact ⟨_, _, _, _, rfl, rfl, rfl, rfl, HalfInv.start a n h0 h1⟩
  case round =>
    obtain ⟨r, s, u, v, rfl, rfl, rfl, rfl, hi⟩ := hrel
    have b1 := hi.r0
    have b2 := hi.s0
    have b3 := hi.rn
    have b4 := hi.sn
    by_cases hz : s = 0
    · subst hz
      obtain ⟨c1, c2, c3, c4, c5, c6⟩ := hi.done (by omega) h1 h0
      have C1 := hid_ c1; clear c1
      obtain ⟨m, hm⟩ := c3
      have hq : 1 ≤ n / r := by rw [hm, Int.mul_ediv_cancel_left _ (by omega)]; exact pos_of_mul_pos (by omega : 0 < r * m) c2
      have hq' : n / r ≤ n := Int.ediv_le_self _ (by omega)
      clear hm m
      go_wp2_with (go_at_call 52; refine (mod_any _ _ _ hq (by omega) (by omega) (by omega)).mono ?_; rintro e w1 ⟨rfl, rfl⟩)
      go_ret2
      have hml := Int.emod_lt_of_pos u (b := n / r) (by omega)
      have hm0 := Int.emod_nonneg u (b := n / r) (by omega)
      have hho : HalfOut a n r (u % (n / r)) := ⟨C1.out, c2, b3, hm0, hml, c6⟩
      exact ⟨ret_ii (halfX_of hho).1 (halfX_of hho).2, rfl⟩
    · have hz' : (s == 0) = false := by simp; omega
      have hz2 : (s != 0) = true := by simp; omega
      obtain ⟨c1, c2, c3, c4, c5, c6⟩ := hi.lims (by omega)
      have hnx := hi.next (by omega)
      have d1 := hnx.s0
      have d2 := hnx.sn
      obtain ⟨d4, d5⟩ := hnx.vl
      go_wp2
      go_round
      case rel => exact ⟨_, _, _, _, rfl, rfl, rfl, rfl, hnx⟩
      case measure => simp [intOf]; have := Int.emod_lt_of_pos r (b := s) (by omega); rw [Int.emod_def, Int.mul_comm] at this; omega


theorem inB_false {lo n : Int} (h : ¬ (lo ≤ n ∧ n ≤ 2147483647)) : inB lo n = false := by
  unfold inB
  by_cases h1 : lo ≤ n
  · simp; omega
  · simp; omega

set_option maxHeartbeats 1000000 in
theorem inverse_any (a n : Int) (w : World) (ha : -9223372036854775808 ≤ a) (ha' : a ≤ 9223372036854775807) :
    Calls Try.prog 20 #[.int .i64 a, .int .i64 n] w fun e w' => e = .returned (.tuple #[.int .i64 (inverseS a n).1, .int .i64 (inverseS a n).2]) ∧ w = w' := by
  by_cases hr : 1 ≤ n ∧ n ≤ 2147483647
  · obtain ⟨h1, h2⟩ := hr
    have hin : inB 1 n = true := inB_mk h1 h2
    have m0 := Int.emod_nonneg a (b := n) (by omega)
    have m1 := Int.emod_lt_of_pos a (b := n) (by omega)
    by_cases hg : Int.gcd (a % n) n = 1
    · have hg' : (((Int.gcd (a % n) n : Nat) : Int) != 1) = false := by rw [hg]; rfl
      have hs : inverseS a n = (halfX (a % n) n, 0) := by simp [inverseS, h1, h2, hg]
      have HS := hid_ hs; clear hs
      have HG := hid_ hg; clear hg
      go_enter Try.func20, Try.ntmps20
      go_wp2_with (first | (go_at_call 49; refine (in_any _ _ _).mono ?_; rintro e w1 ⟨rfl, rfl⟩) | (go_at_call 52; refine (mod_any _ _ _ h1 h2 ha ha').mono ?_; rintro e w1 ⟨rfl, rfl⟩) | (go_at_call 51; refine (half_any _ _ _ m0 m1 h2).mono ?_; rintro e w1 ⟨rfl, rfl⟩))
      go_ret2
      rw [HS.out]
      exact ⟨rfl, rfl⟩
    · have hg' : (((Int.gcd (a % n) n : Nat) : Int) != 1) = true := by simp; omega
      have hs : inverseS a n = (0, 11) := by simp [inverseS, h1, h2, hg]
      have HS := hid_ hs; clear hs
      have HG := hid_ hg; clear hg
      go_enter Try.func20, Try.ntmps20
      go_wp2_with (first | (go_at_call 49; refine (in_any _ _ _).mono ?_; rintro e w1 ⟨rfl, rfl⟩) | (go_at_call 52; refine (mod_any _ _ _ h1 h2 ha ha').mono ?_; rintro e w1 ⟨rfl, rfl⟩) | (go_at_call 51; refine (half_any _ _ _ m0 m1 h2).mono ?_; rintro e w1 ⟨rfl, rfl⟩))
      go_ret2
      rw [HS.out]
      exact ⟨rfl, rfl⟩
  · have hin : inB 1 n = false := inB_false hr
    have hs : inverseS a n = (0, 6) := by simp [inverseS]; omega
    have HS := hid_ hs; clear hs
    clear hr
    go_enter Try.func20, Try.ntmps20
    go_wp2_with (go_at_call 49; refine (in_any _ _ _).mono ?_; rintro e w1 ⟨rfl, rfl⟩)
    go_ret2
    rw [HS.out]
    exact ⟨rfl, rfl⟩

set_option maxHeartbeats 1000000 in
theorem power_any (a e n : Int) (w : World) (hn : 1 ≤ n) (hn' : n ≤ 2147483647) (ha0 : 0 ≤ a) (ha : a < n) (he0 : 0 ≤ e) (he : e ≤ 9223372036854775807) :
    Calls Try.prog 55 #[.int .i64 a, .int .i64 e, .int .i64 n] w fun r w' => r = .returned (.int .i64 (a ^ e.toNat % n)) ∧ w = w' := by
  have q0 := Int.emod_nonneg 1 (b := n) (by omega)
  have q1 := Int.emod_lt_of_pos 1 (b := n) (by omega)
  go_enter Try.func55, Try.ntmps55
  go_wp2
  go_loop [0, 1, 7] (fun a' e' o' => ∃ x y o : Int, a' = .int .i64 x ∧ e' = .int .i64 y ∧ o' = .int .i64 o ∧ 0 ≤ x ∧ x < n ∧ 0 ≤ y ∧ y ≤ 9223372036854775807 ∧ 0 ≤ o ∧ o < n ∧ Hid (o * x ^ y.toNat % n = a ^ e.toNat % n)) (fun _ e' _ => (intOf e').toNat)
  case atStart => exact ⟨_, _, _, rfl, rfl, rfl, ha0, ha, he0, he, q0, q1, hid_ (by rw [Int.mul_emod, Int.emod_emod_of_dvd _ (Int.dvd_refl n), ← Int.mul_emod, Int.one_mul])⟩
  case round =>
    obtain ⟨x, y, o, rfl, rfl, rfl, x0, x1, y0, y1, o0, o1, hp⟩ := hrel
    have p1 : 0 ≤ o * x := Int.mul_nonneg o0 x0
    have p2 : o * x ≤ 4611686014132420609 := by
      have := Int.mul_le_mul (show o ≤ 2147483647 by omega) (show x ≤ 2147483647 by omega) x0 (by omega)
      omega
    have p3 : 0 ≤ x * x := Int.mul_nonneg x0 x0
    have p4 : x * x ≤ 4611686014132420609 := by
      have := Int.mul_le_mul (show x ≤ 2147483647 by omega) (show x ≤ 2147483647 by omega) x0 (by omega)
      omega
    by_cases hy : 0 < y
    · by_cases hodd : y % 2 = 1
      · have hb : (bits .and .i64 y 1 == 1) = true := by rw [and_one_i64 y y0 y1, hodd]; rfl
        go_wp2
        go_round
        case rel => exact ⟨_, _, _, rfl, rfl, rfl, Int.emod_nonneg _ (by omega), Int.emod_lt_of_pos _ (by omega), by omega, by omega, Int.emod_nonneg _ (by omega), Int.emod_lt_of_pos _ (by omega), hid_ (by rw [powStep_odd, show 2 * (y / 2).toNat + 1 = y.toNat by omega]; exact hp.out)⟩
        case measure => simp [intOf]; omega
      · have hb : (bits .and .i64 y 1 == 1) = false := by rw [and_one_i64 y y0 y1]; simp; omega
        go_wp2
        go_round
        case rel => exact ⟨_, _, _, rfl, rfl, rfl, Int.emod_nonneg _ (by omega), Int.emod_lt_of_pos _ (by omega), by omega, by omega, o0, o1, hid_ (by rw [powStep_even, show 2 * (y / 2).toNat = y.toNat by omega]; exact hp.out)⟩
        case measure => simp [intOf]; omega
    · have hy0 : y = 0 := by omega
      have hq := hp.out
      rw [hy0] at hq
      have hq' : o = a ^ e.toNat % n := by simp at hq; rw [← hq]; exact (Int.emod_eq_of_lt o0 o1).symm
      have HQ := hid_ hq'; clear hq' hq hy0
      go_wp2
      go_ret
      exact ⟨ret_int HQ.out, rfl⟩

set_option maxHeartbeats 1000000 in
theorem Power_any (a e n : Int) (w : World) (ha : -9223372036854775808 ≤ a) (ha' : a ≤ 9223372036854775807) (he : e ≤ 9223372036854775807) :
    Calls Try.prog 22 #[.int .i64 a, .int .i64 e, .int .i64 n] w fun r w' => r = .returned (.tuple #[.int .i64 (powerS a e n).1, .int .i64 (powerS a e n).2]) ∧ w = w' := by
  by_cases hr : 1 ≤ n ∧ n ≤ 2147483647
  · obtain ⟨h1, h2⟩ := hr
    have hin : inB 1 n = true := inB_mk h1 h2
    have m0 := Int.emod_nonneg a (b := n) (by omega)
    have m1 := Int.emod_lt_of_pos a (b := n) (by omega)
    by_cases he0 : 0 ≤ e
    · have HS := hid_ (show powerS a e n = ((a % n) ^ e.toNat % n, 0) by simp [powerS, h1, h2, he0, pow_emod_])
      go_enter Try.func22, Try.ntmps22
      go_wp2_with (first | (go_at_call 49; refine (in_any _ _ _).mono ?_; rintro e w1 ⟨rfl, rfl⟩) | (go_at_call 52; refine (mod_any _ _ _ h1 h2 ha ha').mono ?_; rintro e w1 ⟨rfl, rfl⟩) | (go_at_call 55; refine (power_any _ _ _ _ h1 h2 m0 m1 he0 he).mono ?_; rintro e w1 ⟨rfl, rfl⟩))
      go_ret2
      rw [HS.out]
      exact ⟨rfl, rfl⟩
    · have HS := hid_ (show powerS a e n = (0, 6) by simp [powerS]; omega)
      have he1 : e < 0 := by omega
      go_enter Try.func22, Try.ntmps22
      go_wp2_with (first | (go_at_call 49; refine (in_any _ _ _).mono ?_; rintro e w1 ⟨rfl, rfl⟩))
      go_ret2
      rw [HS.out]
      exact ⟨rfl, rfl⟩
  · have hin : inB 1 n = false := inB_false hr
    have HS := hid_ (show powerS a e n = (0, 6) by simp [powerS]; omega)
    clear hr
    go_enter Try.func22, Try.ntmps22
    go_wp2_with (go_at_call 49; refine (in_any _ _ _).mono ?_; rintro e w1 ⟨rfl, rfl⟩)
    go_ret2
    rw [HS.out]
    exact ⟨rfl, rfl⟩

theorem inB_small {a : Int} : inB (-2147483647) a = decide (small a) := by
  rw [Bool.eq_iff_iff, decide_eq_true_iff]
  unfold inB small
  simp

theorem nat_gcd_abs (a b : Int) : Nat.gcd a.natAbs b.natAbs = Int.gcd a b := rfl

set_option maxHeartbeats 1000000 in
theorem Gcd_any (a b : Int) (w : World) :
    Calls Try.prog 35 #[.int .i64 a, .int .i64 b] w fun r w' => r = .returned (.tuple #[.int .i64 (gcdS a b).1, .int .i64 (gcdS a b).2]) ∧ Ex w w' := by
  by_cases hr : small a ∧ small b
  · have HS := hid_ (show gcdS a b = (((Int.gcd a b : Nat) : Int), 0) by simp [gcdS, hr])
    obtain ⟨h1, h2⟩ := hr
    have g1 : inB (-2147483647) a = true := by rw [inB_small]; simp [h1]
    have g2 : inB (-2147483647) b = true := by rw [inB_small]; simp [h2]
    unfold small at h1 h2
    obtain ⟨a1, a2⟩ := h1
    obtain ⟨b1, b2⟩ := h2
    go_enter Try.func35, Try.ntmps35
    go_wp2_with (first | (go_at_call 65; refine (both_any _ _ _).mono ?_; rintro e w1 ⟨rfl, rfl⟩) | (go_at_call_of 66 a; refine (abs_any a _ a1 a2).mono ?_; rintro e w1 ⟨rfl, rfl⟩) | (go_at_call_of 66 b; refine (abs_any b _ b1 b2).mono ?_; rintro e w1 ⟨rfl, rfl⟩) | (go_at_call 57; refine (gcd_any _ _ _ (by omega) (by omega)).mono ?_; rintro e w1 ⟨rfl, hx⟩))
    go_ret2
    rw [HS.out]
    exact ⟨rfl, hx⟩
  · have HS := hid_ (show gcdS a b = (0, 6) by simp only [gcdS, if_neg hr])
    have hb : (inB (-2147483647) a && inB (-2147483647) b) = false := by rw [inB_small, inB_small, ← Bool.decide_and]; simp [hr]
    clear hr
    go_enter Try.func35, Try.ntmps35
    go_wp2_with (first | (go_at_call 65; refine (both_any _ _ _).mono ?_; rintro e w1 ⟨rfl, rfl⟩))
    go_ret2
    rw [HS.out]
    exact ⟨rfl, Ex.refl _⟩

theorem natAbs_rng {b : Int} (h : small b) (hb : b ≠ 0) : 1 ≤ (b.natAbs : Int) ∧ (b.natAbs : Int) ≤ 2147483647 := by unfold small at h; omega

theorem mul_lim {a x : Int} (a1 : -2147483647 ≤ a) (a2 : a ≤ 2147483647) (h0 : 0 ≤ x) (h : x ≤ 2147483647) : -4611686014132420609 ≤ a * x ∧ a * x ≤ 4611686014132420609 := by
  have h1 := Int.mul_le_mul_of_nonneg_right a1 h0
  have h2 := Int.mul_le_mul_of_nonneg_right a2 h0
  omega

set_option maxHeartbeats 1000000 in
theorem Bezout_any (a b : Int) (w : World) :
    Calls Try.prog 37 #[.int .i64 a, .int .i64 b] w fun r w' => r = .returned (.tuple #[.int .i64 (bezS a b).1, .int .i64 (bezS a b).2.1, .int .i64 (bezS a b).2.2.1, .int .i64 (bezS a b).2.2.2]) ∧ Ex w w' := by
  by_cases hr : small a ∧ small b
  · have hr0 := hr
    obtain ⟨h1, h2⟩ := hr
    have g1 : inB (-2147483647) a = true := by rw [inB_small]; simp [h1]
    have g2 : inB (-2147483647) b = true := by rw [inB_small]; simp [h2]
    have h2' := h2
    unfold small at h1 h2
    obtain ⟨a1, a2⟩ := h1
    obtain ⟨b1, b2⟩ := h2
    by_cases hb : b = 0
    · subst hb
      have HS := hid_ (show bezS a 0 = (if 0 < a then (a, 1, 0, 0) else if a < 0 then (-a, -1, 0, 0) else (0, 0, 0, 0)) by simp [bezS, hr0])
      clear hr0 h2'
      go_enter Try.func37, Try.ntmps37
      go_wp2_with (first | (go_at_call 65; refine (both_any _ _ _).mono ?_; rintro e w1 ⟨rfl, rfl⟩))
      all_goals
        refine bodyPost_ret (results_tmp4 rfl _ _) rfl ?_
        rw [HS.out]
      · rw [if_pos (by assumption)]; exact ⟨rfl, Ex.refl _⟩
      · rw [if_neg (by omega), if_pos (by assumption)]; exact ⟨rfl, Ex.refl _⟩
      · rw [if_neg (by omega), if_neg (by omega)]; exact ⟨rfl, Ex.refl _⟩
    · obtain ⟨n1, n2⟩ := natAbs_rng h2' hb
      have bne : (b != 0) = true := by simp [hb]
      have m0 := Int.emod_nonneg a (b := (b.natAbs : Int)) (by omega)
      have m1 := Int.emod_lt_of_pos a (b := (b.natAbs : Int)) (by omega)
      obtain ⟨l1, l2, l3, l4⟩ := halfX_lims m0 m1
      have HS := hid_ (show bezS a b = (((Int.gcd (a % (b.natAbs : Int)) (b.natAbs : Int) : Nat) : Int), halfX (a % (b.natAbs : Int)) b.natAbs,
        (((Int.gcd (a % (b.natAbs : Int)) (b.natAbs : Int) : Nat) : Int) - a * halfX (a % (b.natAbs : Int)) b.natAbs).tdiv b, 0) by simp [bezS, hr0, hb])
      have hb' : ¬ b = 0 := hb
      clear hr0 h2' hb
      obtain ⟨p1, p2⟩ := mul_lim a1 a2 l3 (by omega)
      go_enter Try.func37, Try.ntmps37
      go_wp2_with (first | (go_at_call 65; refine (both_any _ _ _).mono ?_; rintro e w1 ⟨rfl, rfl⟩) | (go_at_call 66; refine (abs_any b _ b1 b2).mono ?_; rintro e w1 ⟨rfl, rfl⟩) | (go_at_call 52; refine (mod_any _ _ _ n1 n2 (by omega) (by omega)).mono ?_; rintro e w1 ⟨rfl, rfl⟩) | (go_at_call 51; refine (half_any _ _ _ m0 m1 n2).mono ?_; rintro e w1 ⟨rfl, rfl⟩))
      go_quiet (fail)
      go_wp2
      refine bodyPost_ret (results_tmp4 rfl _ _) rfl ?_
      rw [HS.out]
      exact ⟨ret_4 rfl rfl (wrap_tdiv _ _ (by omega) (by omega)) rfl, (Ex.refl _).drewN _⟩
  · have HS := hid_ (show bezS a b = (0, 0, 0, 6) by simp only [bezS, if_neg hr])
    have hb : (inB (-2147483647) a && inB (-2147483647) b) = false := by rw [inB_small, inB_small, ← Bool.decide_and]; simp [hr]
    clear hr
    go_enter Try.func37, Try.ntmps37
    go_wp2_with (first | (go_at_call 65; refine (both_any _ _ _).mono ?_; rintro e w1 ⟨rfl, rfl⟩))
    refine bodyPost_ret (results_tmp4 rfl _ _) rfl ?_
    rw [HS.out]
    exact ⟨rfl, Ex.refl _⟩

end Go.Proofs.Ytdnmhjpeklaijaa
