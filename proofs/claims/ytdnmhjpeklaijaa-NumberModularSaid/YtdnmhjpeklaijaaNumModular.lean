/- The walk of the law NumberModular. -/
import Derived.Test.YtdnmhjpeklaijaaNumK
import Derived.Test.YtdnmhjpeklaijaaNumW
namespace Go.Proofs.Ytdnmhjpeklaijaa
set_option linter.unusedVariables false
set_option linter.unusedSimpArgs false
open Go.RowKit

/-- What Order hands back, by the program and by the reference. -/
def ordOut (a n o e : Int) : Prop := if 1 ≤ n ∧ n ≤ 2147483647 then ((Int.gcd (a % n) n = 1 ∧ o = ordP a n ∧ e = 0) ∨ (Int.gcd (a % n) n ≠ 1 ∧ o = 0 ∧ e = 11)) else o = 0 ∧ e = 6

theorem ordOut.uniq {a n o e p f : Int} (h : ordOut a n o e) (k : ordOut a n p f) : o = p ∧ e = f := by
  unfold ordOut at h k
  split at h <;> rename_i hc
  · rw [if_pos hc] at k
    rcases h with ⟨h1, rfl, rfl⟩ | ⟨h1, rfl, rfl⟩ <;> rcases k with ⟨k1, rfl, rfl⟩ | ⟨k1, rfl, rfl⟩
    · exact ⟨rfl, rfl⟩
    · exact absurd h1 k1
    · exact absurd k1 h1
    · exact ⟨rfl, rfl⟩
  · rw [if_neg hc] at k
    exact ⟨by rw [h.1, k.1], by rw [h.2, k.2]⟩

theorem ordIn_mod (a n : Int) (p : Nat) : ∀ e k, ordIn (a % n) n p e k = ordIn a n p e k
  | 0, k => rfl
  | e + 1, k => by simp only [ordIn]; rw [pow_emod_, ordIn_mod a n p e]
theorem ordL_mod (a n : Int) : ∀ l k, ordL (a % n) n l k = ordL a n l k
  | [], k => rfl
  | x :: l, k => by simp only [ordL]; rw [ordIn_mod, ordL_mod a n l]
theorem ordP_mod (a n : Int) : ordP (a % n) n = ordP a n := ordL_mod a n _ _

theorem Order_out (a n : Int) (w : World) (a1 : -9223372036854775808 ≤ a) (a2 : a ≤ 9223372036854775807) :
    Calls Try.prog 24 #[.int .i64 a, .int .i64 n] w fun r w' => ∃ o e : Int, r = .returned (.tuple #[.int .i64 o, .int .i64 e]) ∧ ordOut a n o e ∧ Ex w w' := by
  by_cases hr : 1 ≤ n ∧ n ≤ 2147483647
  · by_cases hg : Int.gcd (a % n) n = 1
    · refine (Order_yes a n w a1 a2 hr.1 hr.2 hg).mono ?_
      rintro e w1 ⟨rfl, hx⟩
      exact ⟨_, _, rfl, by unfold ordOut; rw [if_pos hr, ordP_mod]; exact .inl ⟨hg, rfl, rfl⟩, hx⟩
    · refine (Order_none a n w a1 a2 hr.1 hr.2 hg).mono ?_
      rintro e w1 ⟨rfl, hx⟩
      exact ⟨_, _, rfl, by unfold ordOut; rw [if_pos hr]; exact .inr ⟨hg, rfl, rfl⟩, hx⟩
  · refine (Order_no a n w hr).mono ?_
    rintro e w1 ⟨rfl, hx⟩
    exact ⟨_, _, rfl, by unfold ordOut; rw [if_neg hr]; exact ⟨rfl, rfl⟩, hx⟩

theorem rOrder_out (a n : Int) (w : World) (a1 : -9223372036854775808 ≤ a) (a2 : a ≤ 9223372036854775807) :
    Calls Try.prog 25 #[.int .i64 a, .int .i64 n] w fun r w' => ∃ o e : Int, r = .returned (.tuple #[.int .i64 o, .int .i64 e]) ∧ ordOut a n o e ∧ Ex w w' := by
  by_cases hr : 1 ≤ n ∧ n ≤ 2147483647
  · obtain ⟨m, rfl⟩ := Int.eq_ofNat_of_zero_le (show 0 ≤ n by omega)
    refine (rOrder_in a m w (by omega) (by omega) a1 a2).mono ?_
    rintro r w1 ⟨o, e, rfl, h, hx⟩
    exact ⟨_, _, rfl, by unfold ordOut; rw [if_pos hr]; exact h, hx⟩
  · refine (rOrder_no a n w hr).mono ?_
    rintro e w1 ⟨rfl, hx⟩
    exact ⟨_, _, rfl, by unfold ordOut; rw [if_neg hr]; exact ⟨rfl, rfl⟩, hx⟩

set_option maxRecDepth 100000 in
set_option maxHeartbeats 2000000 in
theorem NumberModular_any (a e n : Int) (w : World) (ha : -9223372036854775808 ≤ a ∧ a ≤ 9223372036854775807) (he : -9223372036854775808 ≤ e ∧ e ≤ 9223372036854775807) (hn : -9223372036854775808 ≤ n ∧ n ≤ 9223372036854775807) :
    Calls Try.prog 5 #[.int .i64 a, .int .i64 e, .int .i64 n] w fun r w' => r = .returned (.bool true) ∧ Ex w w' := by
  obtain ⟨a1, a2⟩ := ha
  obtain ⟨e1, e2⟩ := he
  obtain ⟨n1, n2⟩ := hn
  have H1 := hid_ (inverse_any a n · a1 a2)
  have H2 := hid_ (rInverse_any a n · a1 a2)
  have H3 := hid_ (Power_any a e n · a1 a2 e2)
  have H4 := hid_ (rPower_any a e n · a1 a2 e2)
  have H5 := hid_ (Order_out a n · a1 a2)
  have H6 := hid_ (rOrder_out a n · a1 a2)
  generalize inverseS a n = i at *
  generalize powerS a e n = p at *
  obtain ⟨i1, i2⟩ := i
  obtain ⟨p1, p2⟩ := p
  go_enter Try.func5, Try.ntmps5
  go_wp2_with fail
  refine (awake_any _).mono ?_
  rintro e w1 ⟨rfl, hx1⟩
  go_wp2_with fail
  refine (H1.out _).mono ?_
  rintro e w2 ⟨rfl, rfl⟩
  go_wp2_with fail
  refine (H2.out _).mono ?_
  rintro e w2 ⟨rfl, rfl⟩
  go_wp2_with fail
  refine (H3.out _).mono ?_
  rintro e w3 ⟨rfl, rfl⟩
  go_wp2_with fail
  refine (H4.out _).mono ?_
  rintro e w3 ⟨rfl, rfl⟩
  go_wp2_with fail
  refine (H5.out _).mono ?_
  rintro e w4 ⟨o, f, rfl, ho, hx4⟩
  go_wp2_with fail
  refine (H6.out _).mono ?_
  rintro e w5 ⟨o', f', rfl, ho', hx5⟩
  obtain ⟨rfl, rfl⟩ := ho.uniq ho'
  clear ho ho'
  go_wp2_with fail
  go_ret
  exact ⟨rfl, (hx1.trans hx4).trans hx5⟩
end Go.Proofs.Ytdnmhjpeklaijaa
