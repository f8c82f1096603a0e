/- Div64 at every small divisor; Choose. -/
import Derived.Test.YtdnmhjpeklaijaaNumI
namespace Go.Proofs.Ytdnmhjpeklaijaa
set_option linter.unusedVariables false
set_option linter.unusedSimpArgs false
open Go.RowKit

theorem bitLen_small : ∀ y : Fin 65, (64 ≤ y.val → Lib.bitLen y.val = 7) ∧ (32 ≤ y.val ∧ y.val < 64 → Lib.bitLen y.val = 6) ∧ (16 ≤ y.val ∧ y.val < 32 → Lib.bitLen y.val = 5) ∧ (8 ≤ y.val ∧ y.val < 16 → Lib.bitLen y.val = 4) ∧ (4 ≤ y.val ∧ y.val < 8 → Lib.bitLen y.val = 3) ∧ (2 ≤ y.val ∧ y.val < 4 → Lib.bitLen y.val = 2) := by decide +kernel

/-- Div64 at a small divisor: the quotient. -/
def DivOut (hi lo y : Nat) (w : World) (e : Ending) (w' : World) : Prop := ∃ r : Int, e = .returned (.tuple #[.int .u64 ((hi * 18446744073709551616 + lo) / y), .int .u64 r]) ∧ Ex w w'

theorem div_u64 (lo y : Nat) (h : lo < 18446744073709551616) : IntKind.u64.wrap ((lo : Int) / (y : Int)) = (((0 : Nat) : Int) * 18446744073709551616 + (lo : Int)) / (y : Int) := by
  have h1 : (lo : Int) / (y : Int) = ((lo / y : Nat) : Int) := by simp
  have h2 := Nat.div_le_self lo y
  rw [show (((0 : Nat) : Int) * 18446744073709551616 + (lo : Int)) = (lo : Int) by omega, h1]
  generalize lo / y = t at *
  exact IntWalk.u64_in _ (by omega)

set_option maxHeartbeats 1000000 in
theorem Div64_any (hi lo y : Nat) (w : World) (h1 : hi < y) (h2 : y ≤ 64) (h4 : lo < 18446744073709551616) :
    Calls Try.prog 64 #[.int .u64 hi, .int .u64 lo, .int .u64 y] w (DivOut hi lo y w) := by
  obtain ⟨b1, b2, b3, b4, b5, b6⟩ := bitLen_small ⟨y, by omega⟩
  simp only at b1 b2 b3 b4 b5 b6
  by_cases h0 : hi = 0
  · subst h0
    have hy0 : ((y : Int) == 0) = false := by simp; omega
    have hyh : ¬ (y : Int) ≤ 0 := by omega
    have hyp : (1 : Int) ≤ (y : Int) := by omega
    have hyn : ¬ (y : Int) = 0 := by omega
    clear b1 b2 b3 b4 b5 b6
    go_enter Try.func64, Try.ntmps64
    go_wp2
    go_quiet (fail)
    go_wp2
    go_ret2
    exact ⟨_, ret_ii (div_u64 _ _ h4) rfl, (Ex.refl _).drewN _⟩
  · have hp : 1 ≤ hi := by omega
    by_cases c1 : 64 ≤ y
    · exact Div64_57 hi lo y w hp h1 h2 h4 (by rw [b1 c1]; rfl) c1 (by omega)
    by_cases c2 : 32 ≤ y
    · exact Div64_58 hi lo y w hp h1 h2 h4 (by rw [b2 ⟨c2, by omega⟩]; rfl) c2 (by omega)
    by_cases c3 : 16 ≤ y
    · exact Div64_59 hi lo y w hp h1 h2 h4 (by rw [b3 ⟨c3, by omega⟩]; rfl) c3 (by omega)
    by_cases c4 : 8 ≤ y
    · exact Div64_60 hi lo y w hp h1 h2 h4 (by rw [b4 ⟨c4, by omega⟩]; rfl) c4 (by omega)
    by_cases c5 : 4 ≤ y
    · exact Div64_61 hi lo y w hp h1 h2 h4 (by rw [b5 ⟨c5, by omega⟩]; rfl) c5 (by omega)
    · exact Div64_62 hi lo y w hp h1 h2 h4 (by rw [b6 ⟨by omega, by omega⟩]; rfl) (by omega) (by omega)


set_option maxHeartbeats 4000000 in
theorem Choose_any (n k m : Int) (w : World) (hn : n ≤ 9223372036854775807) (hk : k ≤ 9223372036854775807) (hm : m ≤ 9223372036854775807) :
    Calls Try.prog 33 #[.int .i64 n, .int .i64 k, .int .i64 m] w fun r w' => r = .returned (.tuple #[.int .i64 (chooseS n k m).1, .int .i64 (chooseS n k m).2]) ∧ Ex w w' := by
  have HS := hid_ (show chooseS n k m = if n < 0 ∨ k < 0 ∨ m < 0 then (0, 6) else if n < k then (0, 0) else if (choose n.toNat k.toNat : Int) ≤ m then (((choose n.toNat k.toNat : Nat) : Int), 0) else (0, 8) from rfl)
  by_cases hneg : n < 0 ∨ k < 0 ∨ m < 0
  · have HS2 := hid_ (show chooseS n k m = (0, 6) by rw [HS.out, if_pos hneg])
    have c : n < 0 ∨ (0 ≤ n ∧ k < 0) ∨ (0 ≤ n ∧ 0 ≤ k ∧ m < 0) := by omega
    clear hneg
    rcases c with c1 | ⟨c1, c2⟩ | ⟨c1, c2, c3⟩
    all_goals
      go_enter Try.func33, Try.ntmps33
      go_wp2
      go_ret2
      rw [HS2.out]
      exact ⟨rfl, Ex.refl _⟩
  have n0 : 0 ≤ n := by omega
  have k0 : 0 ≤ k := by omega
  have mm0 : 0 ≤ m := by omega
  by_cases hkn : n < k
  · have HS2 := hid_ (show chooseS n k m = (0, 0) by rw [HS.out, if_neg hneg, if_pos hkn])
    clear hneg
    go_enter Try.func33, Try.ntmps33
    go_wp2
    go_ret2
    rw [HS2.out]
    exact ⟨rfl, Ex.refl _⟩
  have HS2 := hid_ (show chooseS n k m = if (choose n.toNat k.toNat : Int) ≤ m then (((choose n.toNat k.toNat : Nat) : Int), 0) else (0, 8) by rw [HS.out, if_neg hneg, if_neg hkn])
  clear hneg HS
  obtain ⟨n, rfl⟩ := Int.eq_ofNat_of_zero_le n0
  obtain ⟨k, rfl⟩ := Int.eq_ofNat_of_zero_le k0
  obtain ⟨m, rfl⟩ := Int.eq_ofNat_of_zero_le mm0
  have hkn' : k ≤ n := by omega
  have hcm := choose_min n k hkn'
  have hcp := choose_pos n k hkn'
  have HS3 := hid_ (show chooseS n k m = if choose n k ≤ m then (((choose n k : Nat) : Int), 0) else (0, 8) by rw [HS2.out, Int.toNat_natCast, Int.toNat_natCast]; simp only [Int.ofNat_le])
  clear HS2 hkn n0 k0 mm0
  by_cases hm0 : m = 0
  · have HS4 := hid_ (show chooseS n k m = (0, 8) by rw [HS3.out, if_neg (by omega)])
    have hmz : ((m : Int) == 0) = true := by simp; omega
    clear hcm hcp hm0
    go_enter Try.func33, Try.ntmps33
    go_wp2
    go_ret2
    rw [HS4.out]
    exact ⟨rfl, Ex.refl _⟩
  have hm1 : 1 ≤ m := by omega
  have hmz : ((m : Int) == 0) = false := by simp; omega
  obtain ⟨j, hj⟩ : ∃ j, min k (n - k) = j := ⟨_, rfl⟩
  obtain ⟨d, hd⟩ : ∃ d, n - j = d := ⟨_, rfl⟩
  have hjd : j ≤ d := by omega
  have hdn : d + j = n := by omega
  rw [hj, hd] at hcm
  have HC := hid_ hcm
  have hcase : (j = k ∧ (k : Int) ≤ (n : Int) - (k : Int)) ∨ ((n : Int) - (k : Int) = (j : Int) ∧ (j : Int) < (k : Int)) := by omega
  have hnj : (n : Int) - (j : Int) = (d : Int) := by omega
  have hbk : decide (n < k) = false := by simp; omega
  clear hcm hcp hm0 hj hd hdn
  rcases hcase with ⟨hc0, hc1⟩ | ⟨hc1, hc2⟩
  case' inl => (have hkj : (k : Int) = (j : Int) := by omega)
  case' inl => (have hmin : min (j : Int) (d : Int) = (j : Int) := by omega)
  case' inr => (have hmin : min (k : Int) (j : Int) = (j : Int) := by omega)
  all_goals
    go_enter Try.func33, Try.ntmps33
    go_wp2
    try simp only [hmin]
    go_loopw [8, 9] (fun o' i' wr => ∃ i : Nat, o' = .int .i64 (choose (d + i) i) ∧ i' = .int .i64 ((i + 1 : Nat) : Int) ∧ i ≤ j ∧ choose (d + i) i ≤ m ∧ Ex w wr) (fun _ i' _ => j + 1 - (intOf i').toNat)
    case atStart => exact ⟨0, by simp [choose_zero], by go_num, by omega, by rw [choose_zero]; omega, Ex.refl _⟩
    case round =>
      obtain ⟨i, rfl, rfl, hi, hle, hx⟩ := hrel
      by_cases hlt : i < j
      · obtain ⟨c, hc⟩ : ∃ c, choose (d + i) i = c := ⟨_, rfl⟩
        obtain ⟨q, hq⟩ : ∃ q, choose (d + (i + 1)) (i + 1) = q := ⟨_, rfl⟩
        have hst := choose_step d i
        have htw := choose_two d i (by omega)
        have hmono := choose_mono d (i + 1) j hlt
        rw [hc, hq] at hst
        rw [hc] at htw hle
        rw [hq, ← HC.out] at hmono
        simp only [hc]
        have hi64 : i + 1 ≤ 64 := by
          rcases Nat.lt_or_ge i 63 with h1 | h1
          · omega
          · have : 2 ^ 63 ≤ 2 ^ i := Nat.pow_le_pow_right (by omega) h1
            omega
        obtain ⟨e, he⟩ : ∃ e, i + 1 = e := ⟨_, rfl⟩
        obtain ⟨u, hu⟩ : ∃ u, d + (i + 1) = u := ⟨_, rfl⟩
        have hu' : d + e = u := by omega
        rw [he, hu'] at hst
        have hu2 : (d : Int) + (e : Int) = (u : Int) := by omega
        have hul : u ≤ n := by omega
        have HE := hid_ he
        have HQ := hid_ hq
        have HU := hid_ hu
        have HT := hid_ hst
        simp only [he]
        rw [he] at hi64
        have he1 : 1 ≤ e := by omega
        have hej : (e : Int) ≤ (j : Int) := by omega
        obtain ⟨H, hH⟩ : ∃ H, c * u / 18446744073709551616 = H := ⟨_, rfl⟩
        obtain ⟨L, hL⟩ : ∃ L, c * u % 18446744073709551616 = L := ⟨_, rfl⟩
        have HH := hid_ hH
        have HL := hid_ hL
        have hHL : H * 18446744073709551616 + L = q * e := by rw [← hH, ← hL, hst]; omega
        have hL1 : L < 18446744073709551616 := by omega
        have HHL := hid_ hHL
        clear hc hq hst htw he hu hu' hH hL hHL
        by_cases hbig : e ≤ H
        · have HS4 := hid_ (show chooseS n k m = (0, 8) by
            rw [HS3.out, if_neg]
            have h1 : 18446744073709551616 * e ≤ q * e := by
              have h2 := Nat.mul_le_mul_left 18446744073709551616 hbig
              have := HHL.out
              omega
            have h3 : 18446744073709551616 ≤ q := Nat.le_of_mul_le_mul_right h1 he1
            omega)
          go_wp2_with (go_at_call 63; refine (Try.bits_Mul64 c u (by omega) (by omega) _).mono ?_; rintro x w1 ⟨rfl, hw1⟩; rw [HH.out, HL.out])
          go_wp2
          go_ret2
          rw [HS4.out]
          exact ⟨rfl, hw1 ▸ hx⟩
        · have hHe : H < e := by omega
          have hHe2 : (H : Int) < (e : Int) := by omega
          have hqd : ((H : Int) * 18446744073709551616 + (L : Int)) / (e : Int) = (q : Int) := by
            have h1 : (H : Int) * 18446744073709551616 + (L : Int) = (q : Int) * (e : Int) := by
              have := HHL.out
              have h2 := congrArg (fun x : Nat => (x : Int)) this
              simpa using h2
            rw [h1]; exact Int.mul_ediv_cancel _ (by omega)
          have HQD := hid_ hqd
          clear hqd hbig
          by_cases hqm : m < q
          · have HS4 := hid_ (show chooseS n k m = (0, 8) by rw [HS3.out, if_neg (by omega)])
            have hq63 : (m : Int) < (q : Int) := by omega
            clear hmono
            go_wp2_with (go_at_call 63; refine (Try.bits_Mul64 c u (by omega) (by omega) _).mono ?_; rintro x w1 ⟨rfl, hw1⟩; rw [HH.out, HL.out])
            go_wp2_with (go_at_call 64; refine (Div64_any H L e _ hHe hi64 hL1).mono ?_; rintro x w2 ⟨r, rfl, hx2⟩; rw [HQD.out])
            go_ret2
            rw [HS4.out]
            subst hw1
            exact ⟨rfl, hx.trans hx2⟩
          · have hqm' : (q : Int) ≤ (m : Int) := by omega
            go_wp2_with (go_at_call 63; refine (Try.bits_Mul64 c u (by omega) (by omega) _).mono ?_; rintro x w1 ⟨rfl, hw1⟩; rw [HH.out, HL.out])
            go_wp2_with (go_at_call 64; refine (Div64_any H L e _ hHe hi64 hL1).mono ?_; rintro x w2 ⟨r, rfl, hx2⟩; rw [HQD.out])
            go_roundw
            case rel =>
              subst hw1
              exact ⟨i + 1, by rw [HQ.out], by have := HE.out; go_num, by omega, by rw [HQ.out]; omega, hx.trans hx2⟩
            case measure => have := HE.out; simp [intOf]; omega
      · obtain rfl : i = j := by omega
        have HS4 := hid_ (show chooseS n k m = (((choose (d + i) i : Nat) : Int), 0) by rw [HS3.out, HC.out, if_pos hle])
        go_wp2
        go_ret2
        rw [HS4.out]
        exact ⟨rfl, hx⟩

end Go.Proofs.Ytdnmhjpeklaijaa
