/- The walk of the law NumberEuler. -/
import Derived.Test.YtdnmhjpeklaijaaNumK
import Derived.Test.YtdnmhjpeklaijaaNumR
import Derived.Test.YtdnmhjpeklaijaaNumO
namespace Go.Proofs.Ytdnmhjpeklaijaa
set_option linter.unusedVariables false
set_option linter.unusedSimpArgs false
open Go.RowKit

/-- What NumberEuler's walk needs, where there is an inverse. -/
theorem euler_facts (a : Int) (m : Nat) (h1 : 1 ≤ m) (hm2 : m ≤ 2147483647) (hg : Int.gcd (a % m) m = 1) : ∃ (x : Int) (o f : Nat), inverseS a m = (x, 0) ∧ ordP (a % m) m = o ∧ phi m = f ∧
    0 ≤ x ∧ x < m ∧ (m : Int) ∣ a % m * x - 1 ∧ 1 ≤ o ∧ 1 ≤ f ∧ o ∣ f ∧ f ≤ m ∧ a ^ f % m = 1 % (m : Int) ∧ a ^ o % m = 1 % (m : Int) ∧ ∀ k : Nat, 1 ≤ k → k < o → a ^ k % m ≠ 1 % (m : Int) := by
  have h0 := Int.emod_nonneg a (b := (m : Int)) (by omega)
  have hlt := Int.emod_lt_of_pos a (b := (m : Int)) (by omega)
  obtain ⟨_, _, g3, g4⟩ := halfX_lims h0 hlt
  obtain ⟨_, _, _, _, _, hd⟩ := halfX_out h0 hlt
  have hg' : Int.gcd (a % m % m) m = 1 := by rw [Int.emod_emod_of_dvd _ (Int.dvd_refl _)]; exact hg
  have HPO : ∀ k, PO (a % m) m k ↔ a ^ k % m = 1 % (m : Int) := fun k => by unfold PO; rw [pow_emod_]
  by_cases hm : m ≤ 2147483647
  · obtain ⟨s1, s2, s3, s4⟩ := ordP_spec (a % m) m h1 hg'
    have hE := euler_PO (a % m) m h1 hg'
    refine ⟨halfX (a % m) m, ordP (a % m) m, phi m, ?_, rfl, rfl, g3, g4, ?_, s1, phi_pos h1, s2, phiGo_le _ _, (HPO _).1 hE, (HPO _).1 s3, fun k hk hko he => ?_⟩
    · unfold inverseS
      rw [if_pos (by omega), if_pos hg]
    · rw [hg] at hd
      rw [Int.mul_comm]; exact hd
    · have := Nat.le_of_dvd (by omega) (s4 k ((HPO k).2 he))
      omega
  · exact absurd hm2 hm

theorem gcd_tmod (a : Int) (m : Nat) : Int.gcd (a.tmod m) m = Int.gcd (a % m) m := by
  have h1 : Int.gcd (a % m) m = Int.gcd a m := by
    have := gcd_emod_natAbs a m
    rwa [Int.natAbs_natCast] at this
  have h2 : Int.gcd (a.tmod m) m = Int.gcd a m := by
    show Nat.gcd (a.tmod m).natAbs m = Nat.gcd a.natAbs m
    rw [Int.natAbs_tmod, Nat.gcd_comm, Nat.gcd_comm a.natAbs]
    show Nat.gcd m (a.natAbs % m) = _
    rw [Nat.gcd_comm, ← Nat.gcd_rec]
  rw [h1, h2]

set_option maxRecDepth 100000 in
set_option maxHeartbeats 2000000 in
theorem NumberEuler_any (a k n : Int) (w : World) (ha : -9223372036854775808 ≤ a ∧ a ≤ 9223372036854775807) (hk : -9223372036854775808 ≤ k ∧ k ≤ 9223372036854775807) (hn : 0 ≤ n ∧ n ≤ 4294967295) :
    Calls Try.prog 13 #[.int .i64 a, .int .i64 k, .int .u32 n] w fun r w' => r = .returned (.bool true) ∧ Ex w w' := by
  obtain ⟨a1, a2⟩ := ha
  obtain ⟨k1, k2⟩ := hk
  obtain ⟨n0, n1⟩ := hn
  obtain ⟨m, hm⟩ : ∃ m : Nat, n % 2147483647 + 1 = (m : Int) := ⟨(n % 2147483647 + 1).toNat, by omega⟩
  have m1 : 1 ≤ m := by omega
  have m2 : m ≤ 2147483647 := by omega
  have n2 : 0 ≤ n % 2147483647 := by omega
  have n3 : n % 2147483647 < 2147483647 := by omega
  by_cases hg : Int.gcd (a % m) m = 1
  · have HO := hid_ (Order_yes a m · a1 a2 (by omega) (by omega) hg)
    obtain ⟨x, o, f, e1, e2, e3, x0, x1, hd, o1, f1, hof, hfm, p1, p2, p3⟩ := euler_facts a m m1 m2 hg
    rw [e2] at HO
    have HI := hid_ (inverse_any a m · a1 a2)
    rw [e1] at HI
    have HP := hid_ (Phi_yes m · m1 m2)
    rw [e3] at HP
    have HD := hid_ hd
    have HF := hid_ hof
    have P3 := hid_ p3
    have hof' := Nat.le_of_dvd (by omega) hof
    have HW1 := hid_ (Power_any a f m · a1 a2 (by omega))
    have HW2 := hid_ (Power_any a o m · a1 a2 (by omega))
    rw [show powerS a f m = (1 % (m : Int), 0) by unfold powerS; rw [if_pos (by omega), Int.toNat_natCast, p1]] at HW1
    rw [show powerS a o m = (1 % (m : Int), 0) by unfold powerS; rw [if_pos (by omega), Int.toNat_natCast, p2]] at HW2
    have HW3 := hid_ (Power_any a k m · a1 a2 k2)
    have hfo : (f : Int) % (o : Int) = 0 := by rw [← Int.natCast_emod, Nat.mod_eq_zero_of_dvd hof]; rfl
    obtain ⟨b, hb⟩ : ∃ b, a % (m : Int) = b := ⟨_, rfl⟩
    have HM := hid_ (rmod_any a m · (by omega) (by omega) a1 a2)
    rw [hb] at HM hd
    have b0 : 0 ≤ b := by rw [← hb]; exact Int.emod_nonneg _ (by omega)
    have b1 : b ≤ 2147483647 := by have := Int.emod_lt_of_pos a (b := (m : Int)) (by omega); omega
    have q0 : 0 ≤ b * x := Int.mul_nonneg b0 x0
    have q1 : b * x ≤ 4611686014132420609 := (mul_lim (by omega) b1 x0 (by omega)).2
    have hq : (b * x - 1).tmod m = 0 := Int.tmod_eq_zero_of_dvd hd
    clear hb p1 p2
    clear hof p3 hg e1 e2 e3 hd
    go_enter Try.func13, Try.ntmps13
    go_wp2_with fail
    refine (awake_any _).mono ?_
    rintro e w1 ⟨rfl, hx1⟩
    go_wp2_with fail
    refine (HI.out _).mono ?_
    rintro e w2 ⟨rfl, rfl⟩
    go_wp2_with fail
    refine (HO.out _).mono ?_
    rintro e w3 ⟨rfl, hx3⟩
    go_wp2_with fail
    refine (HP.out _).mono ?_
    rintro e w4 ⟨rfl, hx4⟩
    go_wp2_with fail
    refine (HM.out _).mono ?_
    rintro e w5 ⟨rfl, rfl⟩
    go_wp2_with fail
    refine (HW1.out _).mono ?_
    rintro e w5 ⟨rfl, rfl⟩
    go_wp2_with fail
    refine (HW2.out _).mono ?_
    rintro e w5 ⟨rfl, rfl⟩
    go_wp2_with fail
    all_goals first
      | (go_ret; exact ⟨rfl, (hx1.trans hx3).trans hx4⟩)
      | skip
    have hk12 : 1 ≤ k ∧ k < (o : Int) := by assumption
    obtain ⟨hk1, hk2⟩ := hk12
    have hpk : (powerS a k m).2 = 0 := by unfold powerS; rw [if_pos (by omega)]
    have hpn : ((powerS a k m).1 == 1 % (m : Int)) = false := by
      unfold powerS
      rw [if_pos (by omega), beq_eq_false_iff_ne]
      exact P3.out k.toNat (by omega) (by omega)
    refine (HW3.out _).mono ?_
    rintro e w5 ⟨rfl, rfl⟩
    rw [hpk]
    go_wp2_with fail
    go_ret
    exact ⟨ret_bool (by simp [hpn, bne]), (hx1.trans hx3).trans hx4⟩
  · have HO := hid_ (Order_none a m · a1 a2 (by omega) (by omega) hg)
    have HI := hid_ (inverse_any a m · a1 a2)
    rw [show inverseS a m = (0, 11) by unfold inverseS; rw [if_pos (by omega), if_neg hg]] at HI
    have c1 := Int.tmod_lt_of_pos a (b := (m : Int)) (by omega)
    have c2 := Int.lt_tmod_of_pos a (b := (m : Int)) (by omega)
    obtain ⟨g, hgg⟩ : ∃ g : Nat, Int.gcd (a.tmod m) m = g := ⟨_, rfl⟩
    have HG := hid_ (Gcd_any (a.tmod m) m ·)
    rw [show gcdS (a.tmod m) m = ((g : Int), 0) by unfold gcdS small; rw [if_pos (by omega), hgg]] at HG
    have g1 : 1 < g := by
      have h1 : 1 ≤ g := by rw [← hgg]; exact Nat.gcd_pos_of_pos_right _ (by omega)
      rw [gcd_tmod] at hgg
      rcases Nat.eq_or_lt_of_le h1 with h2 | h2
      · rw [← h2] at hgg; exact absurd hgg hg
      · exact h2
    clear hg hgg
    go_enter Try.func13, Try.ntmps13
    go_wp2_with fail
    refine (awake_any _).mono ?_
    rintro e w1 ⟨rfl, hx1⟩
    go_wp2_with fail
    refine (HI.out _).mono ?_
    rintro e w2 ⟨rfl, rfl⟩
    go_wp2_with fail
    refine (HO.out _).mono ?_
    rintro e w3 ⟨rfl, hx3⟩
    go_wp2_with fail
    refine (HG.out _).mono ?_
    rintro e w4 ⟨rfl, hx4⟩
    go_wp2_with fail
    go_ret
    exact ⟨ret_bool (by simp; omega), (hx1.trans hx3).trans hx4⟩
end Go.Proofs.Ytdnmhjpeklaijaa
