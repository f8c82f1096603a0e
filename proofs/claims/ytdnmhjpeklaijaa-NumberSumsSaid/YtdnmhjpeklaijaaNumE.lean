/- Walks of Prime, PrimePower, Phi, Moebius, Order. -/
import Derived.Test.YtdnmhjpeklaijaaNumD
namespace Go.Proofs.Ytdnmhjpeklaijaa
set_option linter.unusedVariables false
set_option linter.unusedSimpArgs false
open Go.RowKit

set_option maxHeartbeats 1000000 in
theorem Factor_no (n : Int) (w : World) (h : ¬ (1 ≤ n ∧ n ≤ 2147483647)) :
    Calls Try.prog 17 #[.int .i64 n] w fun r w' => r = .returned (.tuple #[.slice none 0 0, .int .i64 6]) ∧ Ex w w' := by
  have hin : inB 1 n = false := inB_false h
  clear h
  go_enter Try.func17, Try.ntmps17
  go_wp2_with (go_at_call 49; refine (in_any _ _ _).mono ?_; rintro e w1 ⟨rfl, rfl⟩)
  go_ret2
  exact ⟨rfl, Ex.refl _⟩

def primeB (n : Int) : Bool := decide (2 ≤ n ∧ n ≤ 2147483647 ∧ ((ld n.toNat : Nat) : Int) = n)

set_option maxHeartbeats 1000000 in
theorem Prime_any (n : Int) (w : World) :
    Calls Try.prog 18 #[.int .i64 n] w fun r w' => r = .returned (.bool (primeB n)) ∧ Ex w w' := by
  by_cases h : 2 ≤ n ∧ n ≤ 2147483647
  · obtain ⟨h1, h2⟩ := h
    have hin : inB 2 n = true := inB_mk h1 h2
    obtain ⟨k, rfl⟩ := Int.eq_ofNat_of_zero_le (show 0 ≤ n by omega)
    have HS := hid_ (show primeB k = (((ld k : Nat) : Int) == (k : Int)) by unfold primeB; rw [Bool.eq_iff_iff]; simp; omega)
    go_enter Try.func18, Try.ntmps18
    go_wp2_with (first | (go_at_call 49; refine (in_any _ _ _).mono ?_; rintro e w1 ⟨rfl, rfl⟩) | (go_at_call 50; refine (least_any _ _ (by omega) (by omega)).mono ?_; rintro e w1 ⟨rfl, hx⟩))
    go_ret
    exact ⟨ret_bool HS.out.symm, hx⟩
  · have hin : inB 2 n = false := inB_false h
    have HS := hid_ (show primeB n = false by unfold primeB; simp; omega)
    clear h
    go_enter Try.func18, Try.ntmps18
    go_wp2_with (first | (go_at_call 49; refine (in_any _ _ _).mono ?_; rintro e w1 ⟨rfl, rfl⟩))
    go_ret
    exact ⟨ret_bool HS.out.symm, Ex.refl _⟩

theorem flat_at : ∀ (l : List (Nat × Nat)) (k : Nat) (x : Nat × Nat), l[k]? = some x → (flat l)[k * 2]? = some (.int .i64 x.1) ∧ (flat l)[k * 2 + 1]? = some (.int .i64 x.2)
  | [], k, x, h => by simp at h
  | y :: l, 0, x, h => by simp at h; subst h; simp [flat]
  | y :: l, k + 1, x, h => by
    have ih := flat_at l k x (by simpa using h)
    have e : flat (y :: l) = .int .i64 y.1 :: .int .i64 y.2 :: flat l := by simp [flat]
    rw [e, show (k + 1) * 2 = k * 2 + 1 + 1 by omega, show k * 2 + 1 + 1 + 1 = (k * 2 + 1) + 1 + 1 by omega]
    simpa using ih

/-- A slice of prime powers that reads as a list. -/
def PSl (w : World) (v : Value) (l : List (Nat × Nat)) : Prop := Sl w v l.length 2 (flat l)

theorem PSl.open {w : World} {v : Value} {l : List (Nat × Nat)} (h : PSl w v l) : ∃ a cap, v = .slice a l.length cap ∧ l.length ≤ cap ∧ cap ≤ maxLen ∧
    (0 < l.length → ∃ b o, a = some ⟨b, o, none⟩ ∧ ∀ k x, l[k]? = some x → w.cell? ⟨b, o + k * 2, none⟩ = some (.int .i64 x.1) ∧ w.cell? ⟨b, o + k * 2 + 1, none⟩ = some (.int .i64 x.2)) := by
  obtain ⟨h1, a, cap, h2, h3, h4, h5⟩ := h
  refine ⟨a, cap, h2, h3, h4, fun hn => ?_⟩
  obtain ⟨b, o, h6, h7⟩ := h5 hn
  exact ⟨b, o, h6, fun k x hx => ⟨h7 _ _ (flat_at l k x hx).1, h7 _ _ (flat_at l k x hx).2⟩⟩

set_option maxHeartbeats 1000000 in
theorem Phi_yes (n : Nat) (w : World) (h1 : 1 ≤ n) (h2 : n ≤ 2147483647) :
    Calls Try.prog 39 #[.int .i64 n] w fun r w' => r = .returned (.tuple #[.int .i64 (phi n), .int .i64 0]) ∧ Ex w w' := by
  go_enter Try.func39, Try.ntmps39
  go_wp2_with (first | (go_at_call 17; refine (Factor_yes _ _ h1 h2).mono ?_; rintro e w1 ⟨v, rfl, hsl, hx⟩; obtain ⟨sa, cap, rfl, s1, s2, s3⟩ := PSl.open hsl))
  have hge := facs_ge n
  have HG := hid_ hge; clear hge
  have HP := hid_ (show phi n = phiGo n (facs n) from rfl)
  generalize facs n = l at *
  unfold maxLen at s2
  have S3 := hid_ s3; clear s3
  go_loopw [0, 18] (fun n' k' wr => ∃ k : Nat, n' = .int .i64 (phiGo n (l.take k)) ∧ k' = .int .i64 k ∧ k ≤ l.length ∧ Ex w1 wr) (fun _ k' _ => l.length - (intOf k').toNat)
  case atStart => exact ⟨0, by simp [phiGo], rfl, by omega, Ex.refl _⟩
  case round =>
    obtain ⟨k, rfl, rfl, hk, hx1⟩ := hrel
    by_cases hlt : k < l.length
    · obtain ⟨x, hxk⟩ : ∃ x, l[k]? = some x := ⟨_, List.getElem?_eq_getElem hlt⟩
      obtain ⟨b, o, rfl, hc⟩ := S3.out (by omega)
      obtain ⟨c1, c2⟩ := hc k x hxk
      replace c1 := hx1.cell c1
      replace c2 := hx1.cell c2
      obtain ⟨g1, g2, g3⟩ := HG.out x (List.mem_of_getElem? hxk)
      have hle := phiGo_le n (l.take k)
      have hst := phiGo_append n (l.take k) x
      rw [← take_snoc_ hxk] at hst
      have HS := hid_ hst
      clear hst hc hxk
      generalize phiGo n (l.take k) = m at *
      go_wp2
      go_quiet (fail)
      go_wp2
      go_roundw
      case rel =>
        have q1 : (m : Int) / (x.1 : Int) = ((m / x.1 : Nat) : Int) := by simp
        have q2 := Nat.div_mul_le_self m x.1
        have q3 := Nat.mul_le_mul_left (m / x.1) (Nat.sub_le x.1 1)
        have q4 : ((m / x.1 : Nat) : Int) * ((x.1 : Int) - 1) = ((m / x.1 * (x.1 - 1) : Nat) : Int) := by
          rw [Int.natCast_mul, Int.natCast_sub (by omega)]; rfl
        have q5 := Nat.div_le_self m x.1
        refine ⟨k + 1, ?_, by go_num, by omega, (hx1.alloc _).drewN _⟩
        rw [HS.out, q1]
        generalize m / x.1 = t at *
        rw [w64 (x := (t : Int)) (by omega) (by omega), q4, w64 (by omega) (by omega)]
      case measure => simp [intOf]; omega
    · obtain rfl : k = l.length := by omega
      rw [List.take_length] at *
      go_wp2
      go_ret2
      exact ⟨ret_ii (by rw [HP.out]) rfl, hx.trans hx1⟩

set_option maxHeartbeats 1000000 in
theorem Phi_no (n : Int) (w : World) (h : ¬ (1 ≤ n ∧ n ≤ 2147483647)) :
    Calls Try.prog 39 #[.int .i64 n] w fun r w' => r = .returned (.tuple #[.int .i64 0, .int .i64 6]) ∧ Ex w w' := by
  have c := fun w => Factor_no n w h
  clear h
  go_enter Try.func39, Try.ntmps39
  go_wp2_with (first | (go_at_call 17; refine (c _).mono ?_; rintro e w1 ⟨rfl, hx⟩))
  go_ret2
  exact ⟨rfl, hx⟩

theorem moeGo_zero : ∀ (l : List (Nat × Nat)) (o : Int) (k : Nat) (x : Nat × Nat), (∀ j y, j < k → l[j]? = some y → y.2 ≤ 1) → l[k]? = some x → 1 < x.2 → moeGo o l = 0
  | [], o, k, x, h1, h2, h3 => by simp at h2
  | y :: l, o, 0, x, h1, h2, h3 => by simp at h2; subst h2; simp [moeGo, h3]
  | y :: l, o, k + 1, x, h1, h2, h3 => by
    have h4 := h1 0 y (by omega) rfl
    simp only [moeGo]
    rw [if_neg (by omega)]
    exact moeGo_zero l (-o) k x (fun j z hj hz => h1 (j + 1) z (by omega) (by simpa using hz)) (by simpa using h2) h3

theorem moeGo_step : ∀ (l : List (Nat × Nat)) (o : Int) (k : Nat) (x : Nat × Nat), l[k]? = some x → x.2 ≤ 1 → moeGo o (l.take (k + 1)) = - moeGo o (l.take k)
  | [], o, k, x, h2, h3 => by simp at h2
  | y :: l, o, 0, x, h2, h3 => by simp at h2; subst h2; simp [moeGo]; omega
  | y :: l, o, k + 1, x, h2, h3 => by
    simp only [List.take_succ_cons, moeGo]
    split
    · simp
    · exact moeGo_step l (-o) k x (by simpa using h2) h3

theorem moeGo_rng : ∀ (l : List (Nat × Nat)) (o : Int), -1 ≤ o → o ≤ 1 → -1 ≤ moeGo o l ∧ moeGo o l ≤ 1
  | [], o, h1, h2 => by simp [moeGo, h1, h2]
  | y :: l, o, h1, h2 => by
    simp only [moeGo]
    split
    · omega
    · exact moeGo_rng l (-o) (by omega) (by omega)

set_option maxHeartbeats 1000000 in
theorem Moebius_yes (n : Nat) (w : World) (h1 : 1 ≤ n) (h2 : n ≤ 2147483647) :
    Calls Try.prog 48 #[.int .i64 n] w fun r w' => r = .returned (.tuple #[.int .i64 (moe n), .int .i64 0]) ∧ Ex w w' := by
  go_enter Try.func48, Try.ntmps48
  go_wp2_with (first | (go_at_call 17; refine (Factor_yes _ _ h1 h2).mono ?_; rintro e w1 ⟨v, rfl, hsl, hx⟩; obtain ⟨sa, cap, rfl, s1, s2, s3⟩ := PSl.open hsl))
  have hmu : ∀ x ∈ facs n, x.2 ≤ 2147483647 := by
    intro x hx
    exact Nat.le_trans (facs_exp_le n x hx) h2
  have HG := hid_ hmu; clear hmu
  have HP := hid_ (show moe n = moeGo 1 (facs n) from rfl)
  generalize facs n = l at *
  unfold maxLen at s2
  have S3 := hid_ s3; clear s3
  go_loopw [6, 19] (fun o' k' wr => ∃ k : Nat, o' = .int .i64 (moeGo 1 (l.take k)) ∧ k' = .int .i64 k ∧ k ≤ l.length ∧ Hid (∀ j y, j < k → l[j]? = some y → y.2 ≤ 1) ∧ Ex w1 wr) (fun _ k' _ => l.length - (intOf k').toNat)
  case atStart => exact ⟨0, by simp [moeGo], rfl, by omega, hid_ (by intro j y h; omega), Ex.refl _⟩
  case round =>
    obtain ⟨k, rfl, rfl, hk, hall, hx1⟩ := hrel
    by_cases hlt : k < l.length
    · obtain ⟨x, hxk⟩ : ∃ x, l[k]? = some x := ⟨_, List.getElem?_eq_getElem hlt⟩
      obtain ⟨b, o, rfl, hc⟩ := S3.out (by omega)
      obtain ⟨c1, c2⟩ := hc k x hxk
      replace c1 := hx1.cell c1
      replace c2 := hx1.cell c2
      have g1 := HG.out x (List.mem_of_getElem? hxk)
      obtain ⟨m1, m2⟩ := moeGo_rng (l.take k) 1 (by omega) (by omega)
      clear hc
      by_cases he : 1 < x.2
      · have hz := moeGo_zero l 1 k x hall.out hxk he
        have HZ := hid_ hz
        have he' : (1 : Int) < (x.2 : Int) := by omega
        clear hz hxk he
        go_wp2
        go_ret2
        exact ⟨ret_ii (by rw [HP.out, HZ.out]) rfl, (hx.trans hx1).alloc _⟩
      · have hz := moeGo_step l 1 k x hxk (by omega)
        have hall' : ∀ j y, j < k + 1 → l[j]? = some y → y.2 ≤ 1 := by
          intro j y hj hy
          by_cases e : j = k
          · subst e; rw [hxk] at hy; injection hy with hy; subst hy; omega
          · exact hall.out j y (by omega) hy
        have HZ := hid_ hz
        have HA := hid_ hall'
        have he' : (x.2 : Int) ≤ 1 := by omega
        clear hz hxk he hall' hall
        go_wp2
        go_roundw
        case rel => exact ⟨k + 1, by rw [HZ.out], by go_num, by omega, HA, hx1.alloc _⟩
        case measure => simp [intOf]; omega
    · obtain rfl : k = l.length := by omega
      rw [List.take_length] at *
      go_wp2
      go_ret2
      exact ⟨ret_ii (by rw [HP.out]) rfl, hx.trans hx1⟩

set_option maxHeartbeats 1000000 in
theorem Moebius_no (n : Int) (w : World) (h : ¬ (1 ≤ n ∧ n ≤ 2147483647)) :
    Calls Try.prog 48 #[.int .i64 n] w fun r w' => r = .returned (.tuple #[.int .i64 0, .int .i64 6]) ∧ Ex w w' := by
  have c := fun w => Factor_no n w h
  clear h
  go_enter Try.func48, Try.ntmps48
  go_wp2_with (first | (go_at_call 17; refine (c _).mono ?_; rintro e w1 ⟨rfl, hx⟩))
  go_ret2
  exact ⟨rfl, hx⟩

set_option maxHeartbeats 1000000 in
theorem PrimePower_any (n : Int) (w : World) :
    Calls Try.prog 41 #[.int .i64 n] w fun r w' => r = .returned (.tuple #[.int .i64 (ppS n).1, .int .i64 (ppS n).2.1, .int .i64 (ppS n).2.2]) ∧ Ex w w' := by
  by_cases h : 1 ≤ n ∧ n ≤ 2147483647
  · obtain ⟨h1, h2⟩ := h
    obtain ⟨m, rfl⟩ := Int.eq_ofNat_of_zero_le (show 0 ≤ n by omega)
    have hp : ppS m = ppL (facs m) := by
      unfold ppS; rw [if_pos ⟨h1, h2⟩, Int.toNat_natCast]
    have HP := hid_ hp; clear hp
    by_cases hl : (facs m).length = 1
    · have hl1 : (((facs m).length : Int) != 1) = false := by rw [hl]; rfl
      obtain ⟨x, hx0⟩ := List.length_eq_one_iff.1 hl
      have HX := hid_ hx0
      clear hx0 hl
      go_enter Try.func41, Try.ntmps41
      go_wp2_with fail
      refine (Factor_yes _ _ (by omega) (by omega)).mono ?_
      rintro e w1 ⟨v, rfl, hsl, hx⟩
      obtain ⟨sa, cap, rfl, s1, s2, s3⟩ := PSl.open hsl
      have s4 := s3 (by rw [HX.out]; exact Nat.one_pos)
      obtain ⟨b, o, rfl, hc⟩ := s4
      obtain ⟨c1, c2⟩ := hc 0 x (by rw [HX.out]; rfl)
      simp only [Nat.zero_mul, Nat.add_zero] at c1 c2
      clear s3 hc
      have hpos : 0 < (facs m).length := by rw [HX.out]; exact Nat.one_pos
      go_wp2
      go_quiet (fail)
      go_wp2
      go_ret3
      rw [HP.out, HX.out]
      exact ⟨rfl, hx.drewN _⟩
    · have hl1 : (((facs m).length : Int) != 1) = true := by rw [bne_iff_ne]; omega
      have HP2 := hid_ (ppL_no _ hl)
      clear hl
      go_enter Try.func41, Try.ntmps41
      go_wp2_with (first | (go_at_call 17; refine (Factor_yes _ _ (by omega) (by omega)).mono ?_; rintro e w1 ⟨v, rfl, hsl, hx⟩; obtain ⟨sa, cap, rfl, s1, s2, s3⟩ := PSl.open hsl))
      go_ret3
      rw [HP.out, HP2.out]
      exact ⟨rfl, hx⟩
  · have c := fun w => Factor_no n w h
    have HS := hid_ (show ppS n = (0, 0, 6) by unfold ppS; rw [if_neg h])
    clear h
    go_enter Try.func41, Try.ntmps41
    go_wp2_with (first | (go_at_call 17; refine (c _).mono ?_; rintro e w1 ⟨rfl, hx⟩))
    go_ret3
    rw [HS.out]
    exact ⟨rfl, hx⟩

end Go.Proofs.Ytdnmhjpeklaijaa
