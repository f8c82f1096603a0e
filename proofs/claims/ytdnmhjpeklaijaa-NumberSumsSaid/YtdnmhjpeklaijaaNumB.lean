
/- Walks of Exp, Product, Choose, Chinese. -/
import Derived.Test.YtdnmhjpeklaijaaNumA
namespace Go.Proofs.Ytdnmhjpeklaijaa
set_option linter.unusedVariables false
set_option linter.unusedSimpArgs false
open Go.RowKit

theorem expS_step {q m o : Int} {t : Nat} (ho : 1 ≤ o) (hq : 1 ≤ q) (hm : 0 ≤ m) (h : o > m / q) : m < o * q ^ (t + 1) := by
  have h1 : m < o * q := by
    have := Int.lt_mul_of_ediv_lt (by omega : 0 < q) h
    exact this
  have h2 : 1 ≤ q ^ t := Int.pow_pos (by omega)
  have h3 : o * q * 1 ≤ o * q * q ^ t := Int.mul_le_mul_of_nonneg_left h2 (Int.mul_nonneg (by omega) (by omega))
  rw [Int.pow_succ, Int.mul_comm (q ^ t) q, ← Int.mul_assoc]
  omega

set_option maxHeartbeats 1000000 in
theorem Exp_any (q k m : Int) (w : World) (hq : q ≤ 9223372036854775807) (hk : k ≤ 9223372036854775807) (hm : m ≤ 9223372036854775807) :
    Calls Try.prog 31 #[.int .i64 q, .int .i64 k, .int .i64 m] w fun r w' => r = .returned (.tuple #[.int .i64 (expS q k m).1, .int .i64 (expS q k m).2]) ∧ Ex w w' := by
  by_cases hneg : q < 0 ∨ k < 0 ∨ m < 0
  · have HS := hid_ (show expS q k m = (0, 6) by simp only [expS, if_pos hneg])
    have c : q < 0 ∨ (0 ≤ q ∧ k < 0) ∨ (0 ≤ q ∧ 0 ≤ k ∧ m < 0) := by omega
    clear hneg
    rcases c with c1 | ⟨c1, c2⟩ | ⟨c1, c2, c3⟩
    all_goals
      go_enter Try.func31, Try.ntmps31
      go_wp2
      go_ret2
      rw [HS.out]
      exact ⟨rfl, Ex.refl _⟩
  · have q0 : 0 ≤ q := by omega
    have k0 : 0 ≤ k := by omega
    have mm0 : 0 ≤ m := by omega
    have HS := hid_ (show expS q k m = if q ^ k.toNat ≤ m then (q ^ k.toNat, 0) else (0, 8) by simp only [expS, if_neg hneg])
    clear hneg
    by_cases c1 : q = 0 ∧ 0 < k
    · obtain ⟨rfl, c2⟩ := c1
      go_enter Try.func31, Try.ntmps31
      go_wp2
      go_ret2
      rw [HS.out, Int.zero_pow (by omega), if_pos mm0]
      exact ⟨rfl, Ex.refl _⟩
    · have hz : (q == 0) = false ∨ (q = 0 ∧ k = 0) := by
        by_cases h : q = 0
        · right; omega
        · left; simpa using h
      by_cases c2 : m = 0
      · subst c2
        have HP : Hid (1 ≤ q ^ k.toNat) := by
          apply hid_
          rcases Int.lt_or_eq_of_le q0 with h | h
          · exact Int.pow_pos h
          · have : k = 0 := by omega
            subst this; simp
        clear c1
        rcases hz with hz | ⟨rfl, rfl⟩
        all_goals
          go_enter Try.func31, Try.ntmps31
          go_wp2
          go_ret2
          rw [HS.out, if_neg (by have := HP.out; omega)]
          exact ⟨rfl, Ex.refl _⟩
      · have m1 : 1 ≤ m := by omega
        have hm0 : (m == 0) = false := by simpa using c2
        clear c1 c2
        rcases hz with hz | ⟨z1, z2⟩
        case inr =>
          subst z1; subst z2
          go_enter Try.func31, Try.ntmps31
          go_wp2
          refine wp_loop_rounds 1 ?_
          rw [rounds_succ]
          go_wp2
          go_ret2
          rw [HS.out]
          simp [m1]
          exact Ex.refl _
        case inl =>
          go_enter Try.func31, Try.ntmps31
          go_wp2
          go_loopw [1, 8] (fun k' o' wr => ∃ y o : Int, k' = .int .i64 y ∧ o' = .int .i64 o ∧ 0 ≤ y ∧ y ≤ 9223372036854775807 ∧ 1 ≤ o ∧ o ≤ m ∧ Hid (o * q ^ y.toNat = q ^ k.toNat) ∧ Ex w wr) (fun k' _ _ => (intOf k').toNat)
          case atStart => exact ⟨_, _, rfl, rfl, by omega, by omega, by omega, by omega, hid_ (by simp), Ex.refl _⟩
          case round =>
            obtain ⟨y, o, rfl, rfl, y0, y1, o0, o1, hp, hx⟩ := hrel
            by_cases hy : 0 < y
            · by_cases hq2 : 1 < q
              · by_cases ho : m / q < o
                · have hb : m < q ^ k.toNat := by
                    rw [← hp.out, show y.toNat = (y.toNat - 1) + 1 by omega]
                    exact expS_step o0 (by omega) mm0 ho
                  have HB := hid_ hb; clear hb
                  go_wp2
                  go_ret2
                  rw [HS.out, if_neg (by have := HB.out; omega)]
                  exact ⟨rfl, hx⟩
                · have hb : o * q ≤ m := by
                    have h1 := Int.mul_le_mul_of_nonneg_right (show o ≤ m / q by omega) q0
                    have h2 := Int.ediv_mul_le m (b := q) (by omega)
                    omega
                  have hb0 : 1 ≤ o * q := by
                    have := Int.mul_pos (show 0 < o by omega) (show 0 < q by omega)
                    omega
                  go_wp2
                  go_roundw
                  case rel => exact ⟨_, _, rfl, rfl, by omega, by omega, hb0, hb, hid_ (by rw [← hp.out, show y.toNat = (y - 1).toNat + 1 by omega, Int.pow_succ, Int.mul_assoc, Int.mul_comm q]), hx⟩
                  case measure => simp [intOf]; omega
              · have hq1 : q = 1 ∨ q = 0 := by omega
                have hv : q ^ k.toNat = o := by
                  rcases hq1 with h | h
                  · rw [← hp.out, h, Int.one_pow]; simp
                  · simp [h] at hz
                have HV := hid_ hv; clear hv hq1
                go_wp2
                go_ret2
                rw [HS.out, HV.out, if_pos o1]
                exact ⟨rfl, hx⟩
            · have hv : q ^ k.toNat = o := by
                rw [← hp.out, show y.toNat = 0 by omega, Int.pow_zero, Int.mul_one]
              have HV := hid_ hv; clear hv
              go_wp2
              go_ret2
              rw [HS.out, HV.out, if_pos o1]
              exact ⟨rfl, hx⟩

end Go.Proofs.Ytdnmhjpeklaijaa
