/- The walk of the law NumberPrimes. -/
import Derived.Test.YtdnmhjpeklaijaaNumK
import Derived.Test.YtdnmhjpeklaijaaNumP
namespace Go.Proofs.Ytdnmhjpeklaijaa
set_option linter.unusedVariables false
set_option linter.unusedSimpArgs false
open Go.RowKit

set_option maxHeartbeats 1000000 in
theorem composite_any (n : Nat) (w : World) (h1 : 2 ≤ n) (h2 : n ≤ 2147483647) (hp : ld n ≠ n) :
    Calls Try.prog 19 #[.int .i64 n] w fun r w' => r = .returned (.bool true) ∧ Ex w w' := by
  go_enter Try.func19, Try.ntmps19
  go_wp2
  obtain ⟨l1, l2, l3⟩ := ld_least h1
  obtain ⟨r, hr⟩ : ∃ r, ld n = r := ⟨_, rfl⟩
  rw [hr] at l1 l2 l3 hp
  have hsq : r * r ≤ n := by
    rcases Nat.lt_or_ge n (r * r) with h | h
    · exfalso
      have := ld_eq h1 (least_self h1 l3 h)
      omega
    · exact h
  have HSQ := hid_ hsq
  have L3 := hid_ l3
  have L2 := hid_ l2
  have hrn : r ≤ n := Nat.le_of_dvd (by omega) (Nat.dvd_of_mod_eq_zero l2)
  clear hr hp hsq l2 l3
  go_loopw [3] (fun d' wr => ∃ d : Nat, d' = .int .i64 d ∧ 2 ≤ d ∧ d ≤ r ∧ Ex w wr) (fun d' _ => r - (intOf d').toNat)
  case atStart => exact ⟨2, rfl, by omega, l1, Ex.refl _⟩
  case round =>
    obtain ⟨d, rfl, d1, d2, hx⟩ := hrel
    have hdd : (d : Int) ≤ (n : Int) / (d : Int) := by
      refine Int.le_ediv_of_mul_le (by omega) ?_
      have h3 := Nat.mul_le_mul d2 d2
      have h4 := HSQ.out
      have h5 : ((d * d : Nat) : Int) ≤ (n : Int) := by omega
      rwa [Int.natCast_mul] at h5
    have hq0 : 0 ≤ (n : Int) / (d : Int) := by omega
    have hq1 : (n : Int) / (d : Int) ≤ (n : Int) := Int.ediv_le_self _ (by omega)
    by_cases he : d = r
    · have hm : ((n : Int) % (d : Int) == 0) = true := by
        have := L2.out
        rw [← he] at this
        have h6 : ((n % d : Nat) : Int) = 0 := by omega
        rw [Int.natCast_emod] at h6
        simp [h6]
      clear he
      go_wp2
      go_ret
      exact ⟨rfl, hx⟩
    · have hm : ((n : Int) % (d : Int) == 0) = false := by
        have := L3.out d d1 (by omega)
        rw [beq_eq_false_iff_ne]
        intro h6
        rw [← Int.natCast_emod] at h6
        omega
      have hdr : d + 1 ≤ r := by omega
      clear he
      go_wp2
      go_roundw
      case rel => exact ⟨d + 1, by go_num, by omega, hdr, hx⟩
      case measure => simp [intOf]; omega

theorem mul_lim2' {a x : Int} (a1 : -2147483647 ≤ a) (a2 : a ≤ 2147483647) (h0 : -2147483647 ≤ x) (h : x ≤ 2147483647) : -4611686014132420609 ≤ a * x ∧ a * x ≤ 4611686014132420609 := by
  have h1 : (a * x).natAbs ≤ 2147483647 * 2147483647 := by
    rw [Int.natAbs_mul]
    exact Nat.mul_le_mul (by omega) (by omega)
  omega

theorem prime_tmod {q : Nat} (h : IsP q) (a b : Int) (hm : (a.tmod q * b.tmod q).tmod q = 0) : a.tmod q = 0 ∨ b.tmod q = 0 := by
  have h1 : (q : Int) ∣ a.tmod q * b.tmod q := Int.dvd_of_tmod_eq_zero hm
  have h2 := Int.natAbs_dvd_natAbs.2 h1
  rw [Int.natAbs_mul, Int.natAbs_natCast] at h2
  have aux : ∀ t : Int, q ∣ (t.tmod q).natAbs → t.tmod q = 0 := by
    intro t ht
    have h3 : (t.tmod q).natAbs < q := by
      rw [Int.natAbs_tmod, Int.natAbs_natCast]
      exact Nat.mod_lt _ (by have := h.1; omega)
    have := Nat.eq_zero_of_dvd_of_lt ht h3
    omega
  rcases h.dvd_mul h2 with h3 | h3
  · exact .inl (aux a h3)
  · exact .inr (aux b h3)

set_option maxRecDepth 100000 in
set_option maxHeartbeats 2000000 in
theorem NumberPrimes_any (p a b : Int) (w : World) (hp : -9223372036854775808 ≤ p ∧ p ≤ 9223372036854775807) (ha : -9223372036854775808 ≤ a ∧ a ≤ 9223372036854775807) (hb : -9223372036854775808 ≤ b ∧ b ≤ 9223372036854775807) :
    Calls Try.prog 4 #[.int .i64 p, .int .i64 a, .int .i64 b] w fun r w' => r = .returned (.bool true) ∧ Ex w w' := by
  obtain ⟨p1, p2⟩ := hp
  obtain ⟨a1, a2⟩ := ha
  obtain ⟨b1, b2⟩ := hb
  by_cases hr : 2 ≤ p ∧ p ≤ 2147483647
  case neg =>
    have HP := hid_ (show primeB p = false by unfold primeB; simp; omega)
    have hpb := HP.out
    have c : p < 2 ∨ (2 ≤ p ∧ 2147483647 < p) := by omega
    clear hr
    rcases c with c | ⟨c, c'⟩
    all_goals
      go_enter Try.func4, Try.ntmps4
      go_wp2_with fail
      refine (awake_any _).mono ?_
      rintro e w1 ⟨rfl, hx1⟩
      go_wp2_with fail
      refine (Prime_any _ _).mono ?_
      rintro e w2 ⟨rfl, hx2⟩
      go_wp2_with fail
      go_ret
      exact ⟨rfl, hx1.trans hx2⟩
  case pos =>
    obtain ⟨r1, r2⟩ := hr
    obtain ⟨q, rfl⟩ := Int.eq_ofNat_of_zero_le (show 0 ≤ p by omega)
    by_cases hl : ld q = q
    case neg =>
      have hpb : primeB q = false := by unfold primeB; simp; omega
      have HL := hid_ hl
      clear hl
      go_enter Try.func4, Try.ntmps4
      go_wp2_with fail
      refine (awake_any _).mono ?_
      rintro e w1 ⟨rfl, hx1⟩
      go_wp2_with fail
      refine (Prime_any _ _).mono ?_
      rintro e w2 ⟨rfl, hx2⟩
      go_wp2_with fail
      refine (composite_any q _ (by omega) (by omega) HL.out).mono ?_
      rintro e w3 ⟨rfl, hx3⟩
      go_wp2_with fail
      go_ret
      exact ⟨rfl, (hx1.trans hx2).trans hx3⟩
    case pos =>
      have hpb : primeB q = true := by unfold primeB; simp; omega
      have hip : IsP q := ⟨by omega, hl⟩
      have HT := hid_ (prime_tmod hip a b)
      obtain ⟨x, hx⟩ : ∃ x, a.tmod q = x := ⟨_, rfl⟩
      obtain ⟨y, hy⟩ : ∃ y, b.tmod q = y := ⟨_, rfl⟩
      have x1 : -2147483647 ≤ x := by rw [← hx]; have := Int.lt_tmod_of_pos a (b := (q : Int)) (by omega); omega
      have x2 : x ≤ 2147483647 := by rw [← hx]; have := Int.tmod_lt_of_pos a (b := (q : Int)) (by omega); omega
      have y1 : -2147483647 ≤ y := by rw [← hy]; have := Int.lt_tmod_of_pos b (b := (q : Int)) (by omega); omega
      have y2 : y ≤ 2147483647 := by rw [← hy]; have := Int.tmod_lt_of_pos b (b := (q : Int)) (by omega); omega
      obtain ⟨m1, m2⟩ := mul_lim2' x1 x2 y1 y2
      rw [hx, hy] at HT
      have c : a ≤ 1 ∨ (1 < a ∧ (q : Int) ≤ a) ∨ (1 < a ∧ a < q ∧ ((q : Int) % a == 0) = false) := by
        rcases Int.lt_or_le 1 a with g1 | g1
        · rcases Int.lt_or_le a q with g2 | g2
          · right; right
            refine ⟨g1, g2, ?_⟩
            rw [beq_eq_false_iff_ne]
            intro h6
            obtain ⟨t, rfl⟩ := Int.eq_ofNat_of_zero_le (show 0 ≤ a by omega)
            rw [← Int.natCast_emod] at h6
            exact hip.noDiv t (by omega) (by omega) (by omega)
          · exact .inr (.inl ⟨g1, g2⟩)
        · exact .inl g1
      clear hl hip
      rcases c with c1 | ⟨c1, c2⟩ | ⟨c1, c2, c3⟩
      all_goals
        go_enter Try.func4, Try.ntmps4
        go_wp2_with fail
        refine (awake_any _).mono ?_
        rintro e w1 ⟨rfl, hx1⟩
        go_wp2_with fail
        refine (Prime_any _ _).mono ?_
        rintro e w2 ⟨rfl, hx2⟩
        go_wp2_with fail
        go_quiet (fail)
        go_wp2
      all_goals go_ret
      all_goals first
        | exact ⟨rfl, (hx1.trans hx2).drewN _⟩
        | exact ⟨ret_bool (by rcases HT.out (by assumption) with h | h <;> simp_all), (hx1.trans hx2).drewN _⟩
end Go.Proofs.Ytdnmhjpeklaijaa
