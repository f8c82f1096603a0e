/- The walk of the law NumberGcd. -/
import Derived.Test.YtdnmhjpeklaijaaNumK
namespace Go.Proofs.Ytdnmhjpeklaijaa
set_option linter.unusedVariables false
set_option linter.unusedSimpArgs false
open Go.RowKit

/-- What Bezout gives. -/
theorem bez_facts (a b : Int) (ha : small a) (hb : small b) : ∃ g x y : Int, bezS a b = (g, x, y, 0) ∧ gcdS a b = (g, 0) ∧ g = Int.gcd a b ∧ 0 ≤ g ∧ -2147483647 ≤ x ∧ x ≤ 2147483647 ∧ -2147483647 ≤ y ∧ y ≤ 2147483647 ∧ a * x + b * y = g := by
  have hg : gcdS a b = (((Int.gcd a b : Nat) : Int), 0) := by simp [gcdS, ha, hb]
  by_cases hb0 : b = 0
  · subst hb0
    have hS : bezS a 0 = (if 0 < a then (a, 1, 0, 0) else if a < 0 then (-a, -1, 0, 0) else (0, 0, 0, 0)) := by simp [bezS, ha, hb]
    have e : ((Int.gcd a 0 : Nat) : Int) = a.natAbs := by simp
    refine ⟨(Int.gcd a 0 : Nat), if 0 < a then 1 else if a < 0 then -1 else 0, 0, ?_, hg, rfl, by omega, ?_, ?_, by omega, by omega, ?_⟩
    · rw [hS, e]
      split
      · simp; omega
      · split
        · simp; omega
        · simp; omega
    · split <;> (try split) <;> omega
    · split <;> (try split) <;> omega
    · rw [e]
      split
      · omega
      · split <;> omega
  · have n1 := natAbs_rng hb hb0
    have m0 := Int.emod_nonneg a (b := (b.natAbs : Int)) (by omega)
    have m1 := Int.emod_lt_of_pos a (b := (b.natAbs : Int)) (by omega)
    have hS : bezS a b = (((Int.gcd (a % (b.natAbs : Int)) (b.natAbs : Int) : Nat) : Int), halfX (a % (b.natAbs : Int)) b.natAbs,
        (((Int.gcd (a % (b.natAbs : Int)) (b.natAbs : Int) : Nat) : Int) - a * halfX (a % (b.natAbs : Int)) b.natAbs).tdiv b, 0) := by simp [bezS, ha, hb, hb0]
    obtain ⟨o1, o2, o3, o4, o5, o6⟩ := halfX_out m0 m1
    rw [gcd_emod_natAbs] at hS o2 o3 o5 o6
    generalize halfX (a % (b.natAbs : Int)) b.natAbs = x at *
    obtain ⟨g, hgg⟩ : ∃ g : Int, (Int.gcd a b : Int) = g := ⟨_, rfl⟩
    have hga : g ∣ a := by rw [← hgg]; exact Int.gcd_dvd_left a b
    rw [hgg] at hS o2 o3 o5 o6 hg
    have hdv : b ∣ g - a * x := by
      have h1 : (b.natAbs : Int) ∣ a * x - g := by
        have h2 : x * (a % (b.natAbs : Int)) - g = (a * x - g) - (b.natAbs : Int) * (x * (a / (b.natAbs : Int))) := by
          rw [Int.emod_def, Int.mul_sub]
          have : x * ((b.natAbs : Int) * (a / (b.natAbs : Int))) = (b.natAbs : Int) * (x * (a / (b.natAbs : Int))) := by simp only [Int.mul_left_comm]
          rw [Int.mul_comm x a]
          omega
        have h3 := Int.dvd_add o6 (Int.dvd_mul_right (b.natAbs : Int) (x * (a / (b.natAbs : Int))))
        rw [h2] at h3
        simpa using h3
      have h4 := Int.natAbs_dvd.1 h1
      have h5 : g - a * x = -(a * x - g) := by omega
      rw [h5]
      exact (Int.dvd_neg).2 h4
    obtain ⟨y, hy⟩ := hdv
    have hyd : (g - a * x).tdiv b = y := by rw [hy]; exact Int.mul_tdiv_cancel_left _ hb0
    rw [hyd] at hS
    have hq : (b.natAbs : Int) / g ≤ b.natAbs := Int.ediv_le_self _ (by omega)
    unfold small at ha hb
    have habs : (y.natAbs : Int) ≤ 2147483647 := by
      have h1 : ((b * y).natAbs : Int) ≤ g + a.natAbs * x := by
        have h2 : ((g - a * x).natAbs : Int) ≤ g.natAbs + (a * x).natAbs := by
          have := Int.natAbs_sub_le g (a * x); omega
        rw [← hy]
        rw [Int.natAbs_mul] at h2
        have h3 : ((a.natAbs * x.natAbs : Nat) : Int) = a.natAbs * x := by rw [Int.natCast_mul]; congr 1; omega
        omega
      rw [Int.natAbs_mul, Int.natCast_mul] at h1
      have hbpos : (0 : Int) < (b.natAbs : Int) := by omega
      by_cases ha0 : a = 0
      · subst ha0
        have hgb : g = b.natAbs := by rw [← hgg]; simp
        simp at h1
        have h4 : (b.natAbs : Int) * y.natAbs ≤ b.natAbs * 1 := by omega
        have := Int.le_of_mul_le_mul_left h4 hbpos
        omega
      · have hgle : g ≤ a.natAbs := by
          have h5 := Int.natAbs_dvd_natAbs.2 hga
          have := Nat.le_of_dvd (by omega) h5
          omega
        have h6 : (a.natAbs : Int) * x ≤ a.natAbs * (b.natAbs - 1) := Int.mul_le_mul_of_nonneg_left (by omega) (by omega)
        rw [Int.mul_sub, Int.mul_one] at h6
        have h7 : (b.natAbs : Int) * y.natAbs ≤ b.natAbs * a.natAbs := by rw [Int.mul_comm (b.natAbs : Int) (a.natAbs : Int)]; omega
        have := Int.le_of_mul_le_mul_left h7 hbpos
        omega
    exact ⟨g, x, y, hS, by rw [hg], hgg.symm, by omega, by omega, by omega, by omega, by omega, by omega⟩

theorem mul_lim2 {a x : Int} (a1 : -2147483647 ≤ a) (a2 : a ≤ 2147483647) (h0 : -2147483647 ≤ x) (h : x ≤ 2147483647) : -4611686014132420609 ≤ a * x ∧ a * x ≤ 4611686014132420609 := by
  have h1 : (a * x).natAbs ≤ 2147483647 * 2147483647 := by
    rw [Int.natAbs_mul]
    exact Nat.mul_le_mul (by omega) (by omega)
  omega

theorem tmod_zero_dvd {a d : Int} (h : a.tmod d = 0) : d ∣ a := Int.dvd_of_tmod_eq_zero h

set_option maxRecDepth 100000 in
set_option maxHeartbeats 1000000 in
theorem NumberGcd_any (a b d : Int) (w : World) (ha : -2147483648 ≤ a ∧ a ≤ 2147483647) (hb : -2147483648 ≤ b ∧ b ≤ 2147483647) (hd : -9223372036854775808 ≤ d ∧ d ≤ 9223372036854775807) :
    Calls Try.prog 12 #[.int .i32 a, .int .i32 b, .int .i64 d] w fun r w' => r = .returned (.bool true) ∧ Ex w w' := by
  obtain ⟨a1, a2⟩ := ha
  obtain ⟨b1, b2⟩ := hb
  obtain ⟨d1, d2⟩ := hd
  by_cases hs : small a ∧ small b
  case neg =>
    have c : a < -2147483647 ∨ (-2147483647 ≤ a ∧ b < -2147483647) := by unfold small at hs; omega
    clear hs
    rcases c with c | ⟨c, c'⟩
    all_goals
      go_enter Try.func12, Try.ntmps12
      go_wp2_with fail
      refine (awake_any _).mono ?_
      rintro e w1 ⟨rfl, hx1⟩
      go_wp2_with fail
      go_ret
      exact ⟨rfl, hx1⟩
  case pos =>
    obtain ⟨hs1, hs2⟩ := hs
    obtain ⟨g, x, y, e1, e2, e3, g0, x1, x2, y1, y2, hc⟩ := bez_facts a b hs1 hs2
    have HB := fun w => hid_ (Bezout_any a b w)
    have HG := fun w => hid_ (Gcd_any a b w)
    rw [e1] at HB
    rw [e2] at HG
    dsimp only at HB HG
    unfold small at hs1 hs2
    obtain ⟨s1, s2⟩ := hs1
    obtain ⟨t1, t2⟩ := hs2
    have E3 := hid_ e3
    have hcb : (a * x + b * y != g) = false := by rw [hc]; simp
    have q1 : -4611686014132420609 ≤ a * x ∧ a * x ≤ 4611686014132420609 := mul_lim2 s1 s2 x1 x2
    have q2 : -4611686014132420609 ≤ b * y ∧ b * y ≤ 4611686014132420609 := mul_lim2 t1 t2 y1 y2
    obtain ⟨q1, q1'⟩ := q1
    obtain ⟨q2, q2'⟩ := q2
    clear hc e1 e2 e3
    by_cases hg0 : g = 0
    · have hab : a = 0 ∧ b = 0 := by
        have h1 := E3.out
        rw [hg0] at h1
        have h2 : Int.gcd a b = 0 := by omega
        exact Int.gcd_eq_zero_iff.1 h2
      obtain ⟨ha0, hb0⟩ := hab
      subst ha0; subst hb0; subst hg0
      go_enter Try.func12, Try.ntmps12
      go_wp2_with fail
      refine (awake_any _).mono ?_
      rintro e w1 ⟨rfl, hx1⟩
      go_wp2_with fail
      refine (HB _).out.mono ?_
      rintro e w2 ⟨rfl, hx2⟩
      go_wp2_with fail
      refine (HG _).out.mono ?_
      rintro e w3 ⟨rfl, hx3⟩
      go_wp2_with fail
      go_ret
      exact ⟨rfl, (hx1.trans hx2).trans hx3⟩
    · have hgb : (g == 0) = false := by simp [hg0]
      have hga : g ∣ a := by rw [E3.out]; exact Int.gcd_dvd_left a b
      have hgbb : g ∣ b := by rw [E3.out]; exact Int.gcd_dvd_right a b
      have ta : a.tmod g = 0 := Int.tmod_eq_zero_of_dvd hga
      have tb : b.tmod g = 0 := Int.tmod_eq_zero_of_dvd hgbb
      have hdd : ∀ h1 : a.tmod d = 0, ∀ h2 : b.tmod d = 0, (d == 0 || g % d == 0) = true := by
        intro h1 h2
        have h3 := Int.dvd_coe_gcd (tmod_zero_dvd h1) (tmod_zero_dvd h2)
        rw [← E3.out] at h3
        simp [Int.emod_eq_zero_of_dvd h3]
      have HDD := hid_ hdd
      clear hga hgbb hdd
      go_enter Try.func12, Try.ntmps12
      go_wp2_with fail
      refine (awake_any _).mono ?_
      rintro e w1 ⟨rfl, hx1⟩
      go_wp2_with fail
      refine (HB _).out.mono ?_
      rintro e w2 ⟨rfl, hx2⟩
      go_wp2_with fail
      refine (HG _).out.mono ?_
      rintro e w3 ⟨rfl, hx3⟩
      go_wp2_with fail
      all_goals
        go_ret
        first | exact ⟨rfl, (hx1.trans hx2).trans hx3⟩ | exact ⟨ret_bool (HDD.out (by assumption) (by assumption)), (hx1.trans hx2).trans hx3⟩
end Go.Proofs.Ytdnmhjpeklaijaa
