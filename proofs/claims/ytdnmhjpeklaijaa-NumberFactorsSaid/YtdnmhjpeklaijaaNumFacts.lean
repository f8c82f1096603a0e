/- The walk of the law NumberFactors. -/
import Derived.Test.YtdnmhjpeklaijaaNumK
import Derived.Test.YtdnmhjpeklaijaaNumX
namespace Go.Proofs.Ytdnmhjpeklaijaa
set_option linter.unusedVariables false
set_option linter.unusedSimpArgs false
open Go.RowKit

/-- The reference compares two lists of numbers: the same. -/
theorem rSame_any (v1 v2 : Value) (L : List Nat) (w : World) (h1 : Sl w v1 L.length 1 (nis L)) (h2 : Sl w v2 L.length 1 (nis L)) :
    Calls Try.prog 46 #[v1, v2] w fun r w' => r = .returned (.bool true) ∧ Ex w w' := by
  obtain ⟨a, c1, rfl, s1, s2, s3⟩ := nis_open h1
  obtain ⟨b, c2, rfl, t1, t2, t3⟩ := nis_open h2
  unfold maxLen at s2 t2
  go_enter Try.func46, Try.ntmps46
  go_wp2
  go_loopw [5] (fun i' wr => ∃ i : Nat, i' = .int .i64 i ∧ i ≤ L.length ∧ Ex w wr) (fun i' _ => L.length - (intOf i').toNat)
  case atStart => exact ⟨0, rfl, by omega, Ex.refl _⟩
  case round =>
    obtain ⟨i, rfl, hi, hx⟩ := hrel
    by_cases hlt : i < L.length
    · obtain ⟨d, hd⟩ : ∃ d, L[i]? = some d := ⟨_, List.getElem?_eq_getElem hlt⟩
      obtain ⟨b1, o1, rfl, hc1⟩ := s3.out (by omega)
      obtain ⟨b2, o2, rfl, hc2⟩ := t3.out (by omega)
      have e1 := hx.cell (hc1 i d hd)
      have e2 := hx.cell (hc2 i d hd)
      clear hc1 hc2 hd
      go_wp2
      go_quiet (fail)
      go_wp2
      go_roundw
      case rel => exact ⟨i + 1, by go_num, by omega, hx.drewN _⟩
      case measure => simp [intOf]; omega
    · obtain rfl : i = L.length := by omega
      go_wp2
      go_ret
      exact ⟨rfl, hx⟩

theorem rSamePowers_any (v1 v2 : Value) (l : List (Nat × Nat)) (w : World) (h1 : PSl w v1 l) (h2 : PSl w v2 l) :
    Calls Try.prog 45 #[v1, v2] w fun r w' => r = .returned (.bool true) ∧ Ex w w' := by
  obtain ⟨a, c1, rfl, s1, s2, s3⟩ := PSl.open h1
  obtain ⟨b, c2, rfl, t1, t2, t3⟩ := PSl.open h2
  unfold maxLen at s2 t2
  have S3 := hid_ s3
  have T3 := hid_ t3
  clear s3 t3
  go_enter Try.func45, Try.ntmps45
  go_wp2
  go_loopw [5] (fun i' wr => ∃ i : Nat, i' = .int .i64 i ∧ i ≤ l.length ∧ Ex w wr) (fun i' _ => l.length - (intOf i').toNat)
  case atStart => exact ⟨0, rfl, by omega, Ex.refl _⟩
  case round =>
    obtain ⟨i, rfl, hi, hx⟩ := hrel
    by_cases hlt : i < l.length
    · obtain ⟨d, hd⟩ : ∃ d, l[i]? = some d := ⟨_, List.getElem?_eq_getElem hlt⟩
      obtain ⟨b1, o1, rfl, hc1⟩ := S3.out (by omega)
      obtain ⟨b2, o2, rfl, hc2⟩ := T3.out (by omega)
      have e1 := hx.cell (hc1 i d hd).1
      have e2 := hx.cell (hc1 i d hd).2
      have e3 := hx.cell (hc2 i d hd).1
      have e4 := hx.cell (hc2 i d hd).2
      clear hc1 hc2 hd
      go_wp2
      go_quiet (fail)
      go_wp2
      go_roundw
      case rel => exact ⟨i + 1, by go_num, by omega, hx.drewN _⟩
      case measure => simp [intOf]; omega
    · obtain rfl : i = l.length := by omega
      go_wp2
      go_ret
      exact ⟨rfl, hx⟩

/-- What each of the two Divisors hands back. -/
def DvsOut (n : Int) (w w' : World) (r : Ending) : Prop := ∃ (v : Value) (e : Int) (L : List Nat), r = .returned (.tuple #[v, .int .i64 e]) ∧ Sl w' v L.length 1 (nis L) ∧ Ex w w' ∧ ((1 ≤ n ∧ n ≤ 2147483647 ∧ e = 0 ∧ IsDivs n.toNat L) ∨ (¬ (1 ≤ n ∧ n ≤ 2147483647) ∧ e = 6 ∧ L = []))
def FacOut (n : Int) (w w' : World) (r : Ending) : Prop := ∃ (v : Value) (e : Int) (l : List (Nat × Nat)), r = .returned (.tuple #[v, .int .i64 e]) ∧ PSl w' v l ∧ Ex w w' ∧ ((1 ≤ n ∧ n ≤ 2147483647 ∧ e = 0 ∧ l = facs n.toNat) ∨ (¬ (1 ≤ n ∧ n ≤ 2147483647) ∧ e = 6 ∧ l = []))

theorem Divisors_out (n : Int) (w : World) : Calls Try.prog 43 #[.int .i64 n] w fun r w' => DvsOut n w w' r := by
  by_cases h : 1 ≤ n ∧ n ≤ 2147483647
  · obtain ⟨m, rfl⟩ := Int.eq_ofNat_of_zero_le (show 0 ≤ n by omega)
    refine (Divisors_yes m w (by omega) (by omega)).mono ?_
    rintro r w1 ⟨v, L, rfl, h1, h2, h3⟩
    exact ⟨v, 0, L, rfl, h2, h3, .inl ⟨h.1, h.2, rfl, h1⟩⟩
  · refine (Divisors_no n w h).mono ?_
    rintro r w1 ⟨rfl, h3⟩
    exact ⟨_, 6, [], rfl, Sl.nil _ _, h3, .inr ⟨h, rfl, rfl⟩⟩
theorem rDivisors_out (n : Int) (w : World) : Calls Try.prog 44 #[.int .i64 n] w fun r w' => DvsOut n w w' r := by
  by_cases h : 1 ≤ n ∧ n ≤ 2147483647
  · obtain ⟨m, rfl⟩ := Int.eq_ofNat_of_zero_le (show 0 ≤ n by omega)
    refine (rDivisors_yes m w (by omega) (by omega)).mono ?_
    rintro r w1 ⟨v, L, rfl, h1, h2, h3⟩
    exact ⟨v, 0, L, rfl, h2, h3, .inl ⟨h.1, h.2, rfl, h1⟩⟩
  · refine (rDivisors_no n w h).mono ?_
    rintro r w1 ⟨rfl, h3⟩
    exact ⟨_, 6, [], rfl, Sl.nil _ _, h3, .inr ⟨h, rfl, rfl⟩⟩
theorem Factor_out (n : Int) (w : World) : Calls Try.prog 17 #[.int .i64 n] w fun r w' => FacOut n w w' r := by
  by_cases h : 1 ≤ n ∧ n ≤ 2147483647
  · obtain ⟨m, rfl⟩ := Int.eq_ofNat_of_zero_le (show 0 ≤ n by omega)
    refine (Factor_yes m w (by omega) (by omega)).mono ?_
    rintro r w1 ⟨v, rfl, h2, h3⟩
    exact ⟨v, 0, facs m, rfl, h2, h3, .inl ⟨h.1, h.2, rfl, rfl⟩⟩
  · refine (Factor_no n w h).mono ?_
    rintro r w1 ⟨rfl, h3⟩
    exact ⟨_, 6, [], rfl, Sl.nil _ _, h3, .inr ⟨h, rfl, rfl⟩⟩
theorem rFactor_out (n : Int) (w : World) : Calls Try.prog 40 #[.int .i64 n] w fun r w' => FacOut n w w' r := by
  by_cases h : 1 ≤ n ∧ n ≤ 2147483647
  · obtain ⟨m, rfl⟩ := Int.eq_ofNat_of_zero_le (show 0 ≤ n by omega)
    refine (rFactor_yes m w (by omega) (by omega)).mono ?_
    rintro r w1 ⟨v, rfl, h2, h3⟩
    exact ⟨v, 0, facs m, rfl, h2, h3, .inl ⟨h.1, h.2, rfl, rfl⟩⟩
  · refine (rFactor_no n w h).mono ?_
    rintro r w1 ⟨rfl, h3⟩
    exact ⟨_, 6, [], rfl, Sl.nil _ _, h3, .inr ⟨h, rfl, rfl⟩⟩

theorem divOut_same {n e f : Int} {L M : List Nat} (h : (1 ≤ n ∧ n ≤ 2147483647 ∧ e = 0 ∧ IsDivs n.toNat L) ∨ (¬ (1 ≤ n ∧ n ≤ 2147483647) ∧ e = 6 ∧ L = []))
    (k : (1 ≤ n ∧ n ≤ 2147483647 ∧ f = 0 ∧ IsDivs n.toNat M) ∨ (¬ (1 ≤ n ∧ n ≤ 2147483647) ∧ f = 6 ∧ M = [])) : e = f ∧ L = M := by
  rcases h with ⟨a, b, rfl, h⟩ | ⟨a, rfl, rfl⟩ <;> rcases k with ⟨c, d, rfl, k⟩ | ⟨c, rfl, rfl⟩
  · exact ⟨rfl, h.uniq k⟩
  · exact absurd ⟨a, b⟩ c
  · exact absurd ⟨c, d⟩ a
  · exact ⟨rfl, rfl⟩
theorem facOut_same {n e f : Int} {L M : List (Nat × Nat)} (h : (1 ≤ n ∧ n ≤ 2147483647 ∧ e = 0 ∧ L = facs n.toNat) ∨ (¬ (1 ≤ n ∧ n ≤ 2147483647) ∧ e = 6 ∧ L = []))
    (k : (1 ≤ n ∧ n ≤ 2147483647 ∧ f = 0 ∧ M = facs n.toNat) ∨ (¬ (1 ≤ n ∧ n ≤ 2147483647) ∧ f = 6 ∧ M = [])) : e = f ∧ L = M := by
  rcases h with ⟨a, b, rfl, rfl⟩ | ⟨a, rfl, rfl⟩ <;> rcases k with ⟨c, d, rfl, rfl⟩ | ⟨c, rfl, rfl⟩
  · exact ⟨rfl, rfl⟩
  · exact absurd ⟨a, b⟩ c
  · exact absurd ⟨c, d⟩ a
  · exact ⟨rfl, rfl⟩

set_option maxRecDepth 100000 in
set_option maxHeartbeats 2000000 in
theorem NumberFactors_any (n : Int) (w : World) (hn : -9223372036854775808 ≤ n ∧ n ≤ 9223372036854775807) :
    Calls Try.prog 14 #[.int .i64 n] w fun r w' => r = .returned (.bool true) ∧ Ex w w' := by
  obtain ⟨n1, n2⟩ := hn
  obtain ⟨pp, hpp⟩ : ∃ pp, ppS n = pp := ⟨_, rfl⟩
  obtain ⟨p1, p2, p3⟩ := pp
  go_enter Try.func14, Try.ntmps14
  go_wp2_with fail
  refine (awake_any _).mono ?_
  rintro e w1 ⟨rfl, hx1⟩
  go_wp2_with fail
  refine (Factor_out n _).mono ?_
  rintro r w2 ⟨fv, fe, fl, rfl, fs, hx2, fo⟩
  go_wp2_with fail
  refine (rFactor_out n _).mono ?_
  rintro r w3 ⟨gv, ge, gl, rfl, gs, hx3, go⟩
  obtain ⟨rfl, rfl⟩ := facOut_same fo go
  clear fo go
  have HFS := hid_ fs
  have HGS := hid_ gs
  clear fs gs
  go_wp2_with fail
  refine (PrimePower_any n _).mono ?_
  rw [hpp]
  rintro r w4 ⟨rfl, hx4⟩
  go_wp2_with fail
  refine (rPrimePower_any n _).mono ?_
  rw [hpp]
  rintro r w5 ⟨rfl, hx5⟩
  go_wp2_with fail
  refine (Divisors_out n _).mono ?_
  rintro r w6 ⟨dv, de, dl, rfl, ds, hx6, dt⟩
  go_wp2_with fail
  refine (rDivisors_out n _).mono ?_
  rintro r w7 ⟨ev, ee, el, rfl, es, hx7, et⟩
  obtain ⟨rfl, rfl⟩ := divOut_same dt et
  clear dt et
  have HDS := hid_ ds
  have HES := hid_ es
  clear ds es
  go_wp2_with fail
  refine (rSamePowers_any _ _ fl _ (HFS.out.ex ((((hx3.trans hx4).trans hx5).trans hx6).trans hx7)) (HGS.out.ex (((hx4.trans hx5).trans hx6).trans hx7))).mono ?_
  rintro r w8 ⟨rfl, hx8⟩
  go_wp2_with fail
  refine (rSame_any _ _ dl _ (HDS.out.ex (hx7.trans hx8)) (HES.out.ex hx8)).mono ?_
  rintro r w9 ⟨rfl, hx9⟩
  go_wp2_with fail
  refine (Prime_any n _).mono ?_
  rintro r w10 ⟨rfl, hx10⟩
  go_wp2_with fail
  refine (rPrime_any n _).mono ?_
  rintro r w11 ⟨rfl, hx11⟩
  go_wp2_with fail
  go_ret
  exact ⟨rfl, ((((((((hx1.trans hx2).trans hx3).trans hx4).trans hx5).trans hx6).trans hx7).trans hx8).trans hx9).trans (hx10.trans hx11)⟩
end Go.Proofs.Ytdnmhjpeklaijaa
