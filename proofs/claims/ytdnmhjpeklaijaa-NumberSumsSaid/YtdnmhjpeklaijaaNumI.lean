/- Walks of Div64 at small divisors. -/
import Derived.Test.YtdnmhjpeklaijaaNumA
import Derived.Test.YtdnmhjpeklaijaaShelf
namespace Go.Proofs.Ytdnmhjpeklaijaa
set_option linter.unusedVariables false
set_option linter.unusedSimpArgs false
open Go.RowKit


theorem or_add (a b s : Nat) (hb : b < 2 ^ s) (ha : a * 2 ^ s < 18446744073709551616) (hb' : b < 18446744073709551616) :
    bits .or .u64 ((a * 2 ^ s : Nat) : Int) ((b : Nat) : Int) = ((a * 2 ^ s + b : Nat) : Int) := by
  rw [bits_or_u64_nat _ _ ha hb']
  rw [Nat.mul_comm a, ← Nat.two_pow_add_eq_or_of_lt hb]

theorem and_low (a s : Nat) (hs : 32 ≤ s) (ha : a * 2 ^ s < 18446744073709551616) : bits .and .u64 ((a * 2 ^ s : Nat) : Int) 4294967295 = 0 := by
  have h : bits .and .u64 ((a * 2 ^ s : Nat) : Int) ((4294967295 : Nat) : Int) = ((a * 2 ^ s &&& 4294967295 : Nat) : Int) := bits_and_u64_nat _ _ ha (by omega)
  have h2 : a * 2 ^ s &&& 4294967295 = 0 := by
    rw [show 4294967295 = 2 ^ 32 - 1 by rfl, Nat.and_two_pow_sub_one_eq_mod, show s = 32 + (s - 32) by omega, Nat.pow_add, Nat.mul_left_comm]
    exact Nat.mul_mod_right _ _
  rw [h2] at h
  exact h

set_option maxHeartbeats 2000000 in
theorem Div64_57 (hi lo y : Nat) (w : World) (h0 : 1 ≤ hi) (h1 : hi < y) (h2 : y ≤ 64) (h4 : lo < 18446744073709551616) (hL : 64 - (Lib.bitLen y : Int) = 57) (hy : 64 ≤ y) (hy' : y < 128) :
    Calls Try.prog 64 #[.int .u64 hi, .int .u64 lo, .int .u64 y] w fun e w' => ∃ r : Int, e = .returned (.tuple #[.int .u64 ((hi * 18446744073709551616 + lo) / y), .int .u64 r]) ∧ Ex w w' := by
  have hy0 : ((y : Int) == 0) = false := by simp; omega
  have hh0 : ((hi : Int) == 0) = false := by simp; omega
  have hyh : (hi : Int) < (y : Int) := by omega
  have HL := hid_ hL
  have e1 : bits .and .u64 ((y : Int) * 144115188075855872) 4294967295 = 0 := and_low y 57 (by omega) (by omega)
  have e2 : bits .or .u64 ((hi : Int) * 144115188075855872) ((lo : Int) / 128) = (hi : Int) * 144115188075855872 + (lo : Int) / 128 := by
    have := or_add hi (lo / 128) 57 (by omega) (by omega) (by omega)
    simpa using this
  have hL0 := trivial
  clear hL
  go_enter Try.func64, Try.ntmps64
  go_wp2_with (go_at_call 74; refine (Try.bits_LeadingZeros64 _ _ (by omega) (by omega)).mono ?_; rintro e w1 ⟨rfl, rfl⟩; rw [Int.toNat_natCast, HL.out])
  have hwl0 : 0 ≤ IntKind.u64.wrap ((lo : Int) * 144115188075855872) := by rw [IntKind.wrap_u64]; omega
  have hwl1 : IntKind.u64.wrap ((lo : Int) * 144115188075855872) < 18446744073709551616 := by rw [IntKind.wrap_u64]; omega
  have hN : ((hi : Int) * 144115188075855872 + (lo : Int) / 128) * 4294967296 + IntKind.u64.wrap ((lo : Int) * 144115188075855872) / 4294967296 = ((hi : Int) * 18446744073709551616 + lo) * 33554432 := by rw [IntKind.wrap_u64]; omega
  obtain ⟨V, hV⟩ : ∃ V : Int, (y : Int) * 33554432 = V := ⟨_, rfl⟩
  have hV1 : (y : Int) * 144115188075855872 / 4294967296 = V := by omega
  have hV2 : (y : Int) * 144115188075855872 = V * 4294967296 := by omega
  obtain ⟨U, hU⟩ : ∃ U : Int, (hi : Int) * 144115188075855872 + (lo : Int) / 128 = U := ⟨_, rfl⟩
  have hU0 : 0 ≤ U := by omega
  have hU1 : U < V * 4294967296 := by omega
  have hVp : 1 ≤ V := by omega
  rw [hU] at hN
  simp only [hV1, hU]
  simp only [hV2]
  generalize IntKind.u64.wrap ((lo : Int) * 144115188075855872) = L at *
  obtain ⟨q, hq⟩ : ∃ q : Int, U / V = q := ⟨_, rfl⟩
  have hq0 : 0 ≤ q := by rw [← hq]; exact Int.ediv_nonneg hU0 (by omega)
  have hq1 : q < 4294967296 := by rw [← hq]; exact Int.ediv_lt_of_lt_mul (by omega) (by rw [Int.mul_comm]; exact hU1)
  obtain ⟨p, hp⟩ : ∃ p : Int, q * V = p := ⟨_, rfl⟩
  have hpm : U % V = U - p := by rw [Int.emod_def, hq, Int.mul_comm, hp]
  have hp0 : 0 ≤ U - p := by rw [← hpm]; exact Int.emod_nonneg _ (by omega)
  have hp1 : U - p < V := by rw [← hpm]; exact Int.emod_lt_of_pos _ (by omega)
  have hp2 : 0 ≤ p := by rw [← hp]; exact Int.mul_nonneg hq0 (by omega)
  have hVm : V ≤ 4294967296 := by omega
  simp only [hq, hp]
  have w1' : IntKind.u64.wrap p = p := IntWalk.u64_in _ (by omega)
  have w2' : IntKind.u64.wrap (U - p) = U - p := IntWalk.u64_in _ (by omega)
  simp only [w1', w2']
  have HN := hid_ hN
  have HQ := hid_ hq
  have HP := hid_ hp
  have HM := hid_ hpm
  have HV := hid_ hV
  clear hN hq hp hpm e1 e2 hU hV hV1 hV2 w1' w2' hL0
  refine wp_loop_rounds 1 ?_
  rw [rounds_succ]
  have g1 : ¬ (IntKind.u64.wrap (IntKind.u64.wrap ((U - p) * 4294967296) + L / 4294967296)) < 0 := by rw [IntKind.wrap_u64]; omega
  have g2 : q * 0 = 0 := by omega
  go_wp2
  obtain ⟨T, hT⟩ : ∃ T : Int, (U - p) * 4294967296 + L / 4294967296 = T := ⟨_, rfl⟩
  have hT0 : 0 ≤ T := by omega
  have hT1 : T < V * 4294967296 := by omega
  have he : IntKind.u64.wrap (IntKind.u64.wrap (IntKind.u64.wrap (U * 4294967296) + L / 4294967296) - IntKind.u64.wrap (q * (V * 4294967296))) = T := by
    have : q * (V * 4294967296) = p * 4294967296 := by rw [← HP.out, Int.mul_assoc]
    rw [this]
    simp only [IntKind.wrap_u64]
    omega
  simp only [he]
  obtain ⟨z, hz⟩ : ∃ z : Int, T / V = z := ⟨_, rfl⟩
  have hz0 : 0 ≤ z := by rw [← hz]; exact Int.ediv_nonneg hT0 (by omega)
  have hz1 : z < 4294967296 := by rw [← hz]; exact Int.ediv_lt_of_lt_mul (by omega) (by rw [Int.mul_comm]; exact hT1)
  have he2 : IntKind.u64.wrap (T.tdiv V) = z := by
    rw [Int.tdiv_eq_ediv_of_nonneg hT0, hz]; exact IntWalk.u64_in _ (by omega)
  simp only [he2]
  obtain ⟨p', hp'⟩ : ∃ p' : Int, z * V = p' := ⟨_, rfl⟩
  have hpm' : T % V = T - p' := by rw [Int.emod_def, hz, Int.mul_comm, hp']
  have hp0' : 0 ≤ T - p' := by rw [← hpm']; exact Int.emod_nonneg _ (by omega)
  have hp1' : T - p' < V := by rw [← hpm']; exact Int.emod_lt_of_pos _ (by omega)
  have hp2' : 0 ≤ p' := by rw [← hp']; exact Int.mul_nonneg hz0 (by omega)
  have w1' : IntKind.u64.wrap p' = p' := IntWalk.u64_in _ (by omega)
  have w2' : IntKind.u64.wrap (T - p') = T - p' := IntWalk.u64_in _ (by omega)
  simp only [hp', w1', w2']
  have hfin : q * 4294967296 + z = ((hi : Int) * 18446744073709551616 + lo) / y := by
    have h1 : (U * 4294967296 + L / 4294967296) / V = q * 4294967296 + z := by
      have : U * 4294967296 + L / 4294967296 = T + (q * 4294967296) * V := by
        have : q * 4294967296 * V = p * 4294967296 := by rw [← HP.out, Int.mul_right_comm]
        omega
      rw [this, Int.add_mul_ediv_right _ _ (by omega), hz, Int.add_comm]
    rw [← h1, HN.out, ← HV.out]
    exact Int.mul_ediv_mul_of_pos_left _ _ (by omega)
  have HF := hid_ hfin
  clear he he2 hz hT hp' hpm' w1' w2' hfin g1
  have hb0 : 0 ≤ bits BinOp.and IntKind.u64 L 4294967295 := by
    obtain ⟨l, rfl⟩ := Int.eq_ofNat_of_zero_le hwl0
    have := bits_and_u64_nat l 4294967295 (by omega) (by omega)
    rw [show ((4294967295 : Nat) : Int) = 4294967295 from rfl] at this
    rw [this]; omega
  have hb1 : bits BinOp.and IntKind.u64 L 4294967295 < 4294967296 := by
    obtain ⟨l, rfl⟩ := Int.eq_ofNat_of_zero_le hwl0
    have := bits_and_u64_nat l 4294967295 (by omega) (by omega)
    rw [show ((4294967295 : Nat) : Int) = 4294967295 from rfl] at this
    rw [this]
    have := Nat.and_le_right (n := l) (m := 4294967295)
    omega
  generalize bits BinOp.and IntKind.u64 L 4294967295 = l0 at *
  refine wp_loop_rounds 1 ?_
  rw [rounds_succ]
  have g2' : z * 0 = 0 := by omega
  go_wp2
  go_ret2
  exact ⟨_, ret_ii HF.out rfl, Ex.refl _⟩

set_option maxHeartbeats 2000000 in
theorem Div64_58 (hi lo y : Nat) (w : World) (h0 : 1 ≤ hi) (h1 : hi < y) (h2 : y ≤ 64) (h4 : lo < 18446744073709551616) (hL : 64 - (Lib.bitLen y : Int) = 58) (hy : 32 ≤ y) (hy' : y < 64) :
    Calls Try.prog 64 #[.int .u64 hi, .int .u64 lo, .int .u64 y] w fun e w' => ∃ r : Int, e = .returned (.tuple #[.int .u64 ((hi * 18446744073709551616 + lo) / y), .int .u64 r]) ∧ Ex w w' := by
  have hy0 : ((y : Int) == 0) = false := by simp; omega
  have hh0 : ((hi : Int) == 0) = false := by simp; omega
  have hyh : (hi : Int) < (y : Int) := by omega
  have HL := hid_ hL
  have e1 : bits .and .u64 ((y : Int) * 288230376151711744) 4294967295 = 0 := and_low y 58 (by omega) (by omega)
  have e2 : bits .or .u64 ((hi : Int) * 288230376151711744) ((lo : Int) / 64) = (hi : Int) * 288230376151711744 + (lo : Int) / 64 := by
    have := or_add hi (lo / 64) 58 (by omega) (by omega) (by omega)
    simpa using this
  have hL0 := trivial
  clear hL
  go_enter Try.func64, Try.ntmps64
  go_wp2_with (go_at_call 74; refine (Try.bits_LeadingZeros64 _ _ (by omega) (by omega)).mono ?_; rintro e w1 ⟨rfl, rfl⟩; rw [Int.toNat_natCast, HL.out])
  have hwl0 : 0 ≤ IntKind.u64.wrap ((lo : Int) * 288230376151711744) := by rw [IntKind.wrap_u64]; omega
  have hwl1 : IntKind.u64.wrap ((lo : Int) * 288230376151711744) < 18446744073709551616 := by rw [IntKind.wrap_u64]; omega
  have hN : ((hi : Int) * 288230376151711744 + (lo : Int) / 64) * 4294967296 + IntKind.u64.wrap ((lo : Int) * 288230376151711744) / 4294967296 = ((hi : Int) * 18446744073709551616 + lo) * 67108864 := by rw [IntKind.wrap_u64]; omega
  obtain ⟨V, hV⟩ : ∃ V : Int, (y : Int) * 67108864 = V := ⟨_, rfl⟩
  have hV1 : (y : Int) * 288230376151711744 / 4294967296 = V := by omega
  have hV2 : (y : Int) * 288230376151711744 = V * 4294967296 := by omega
  obtain ⟨U, hU⟩ : ∃ U : Int, (hi : Int) * 288230376151711744 + (lo : Int) / 64 = U := ⟨_, rfl⟩
  have hU0 : 0 ≤ U := by omega
  have hU1 : U < V * 4294967296 := by omega
  have hVp : 1 ≤ V := by omega
  rw [hU] at hN
  simp only [hV1, hU]
  simp only [hV2]
  generalize IntKind.u64.wrap ((lo : Int) * 288230376151711744) = L at *
  obtain ⟨q, hq⟩ : ∃ q : Int, U / V = q := ⟨_, rfl⟩
  have hq0 : 0 ≤ q := by rw [← hq]; exact Int.ediv_nonneg hU0 (by omega)
  have hq1 : q < 4294967296 := by rw [← hq]; exact Int.ediv_lt_of_lt_mul (by omega) (by rw [Int.mul_comm]; exact hU1)
  obtain ⟨p, hp⟩ : ∃ p : Int, q * V = p := ⟨_, rfl⟩
  have hpm : U % V = U - p := by rw [Int.emod_def, hq, Int.mul_comm, hp]
  have hp0 : 0 ≤ U - p := by rw [← hpm]; exact Int.emod_nonneg _ (by omega)
  have hp1 : U - p < V := by rw [← hpm]; exact Int.emod_lt_of_pos _ (by omega)
  have hp2 : 0 ≤ p := by rw [← hp]; exact Int.mul_nonneg hq0 (by omega)
  have hVm : V ≤ 4294967296 := by omega
  simp only [hq, hp]
  have w1' : IntKind.u64.wrap p = p := IntWalk.u64_in _ (by omega)
  have w2' : IntKind.u64.wrap (U - p) = U - p := IntWalk.u64_in _ (by omega)
  simp only [w1', w2']
  have HN := hid_ hN
  have HQ := hid_ hq
  have HP := hid_ hp
  have HM := hid_ hpm
  have HV := hid_ hV
  clear hN hq hp hpm e1 e2 hU hV hV1 hV2 w1' w2' hL0
  refine wp_loop_rounds 1 ?_
  rw [rounds_succ]
  have g1 : ¬ (IntKind.u64.wrap (IntKind.u64.wrap ((U - p) * 4294967296) + L / 4294967296)) < 0 := by rw [IntKind.wrap_u64]; omega
  have g2 : q * 0 = 0 := by omega
  go_wp2
  obtain ⟨T, hT⟩ : ∃ T : Int, (U - p) * 4294967296 + L / 4294967296 = T := ⟨_, rfl⟩
  have hT0 : 0 ≤ T := by omega
  have hT1 : T < V * 4294967296 := by omega
  have he : IntKind.u64.wrap (IntKind.u64.wrap (IntKind.u64.wrap (U * 4294967296) + L / 4294967296) - IntKind.u64.wrap (q * (V * 4294967296))) = T := by
    have : q * (V * 4294967296) = p * 4294967296 := by rw [← HP.out, Int.mul_assoc]
    rw [this]
    simp only [IntKind.wrap_u64]
    omega
  simp only [he]
  obtain ⟨z, hz⟩ : ∃ z : Int, T / V = z := ⟨_, rfl⟩
  have hz0 : 0 ≤ z := by rw [← hz]; exact Int.ediv_nonneg hT0 (by omega)
  have hz1 : z < 4294967296 := by rw [← hz]; exact Int.ediv_lt_of_lt_mul (by omega) (by rw [Int.mul_comm]; exact hT1)
  have he2 : IntKind.u64.wrap (T.tdiv V) = z := by
    rw [Int.tdiv_eq_ediv_of_nonneg hT0, hz]; exact IntWalk.u64_in _ (by omega)
  simp only [he2]
  obtain ⟨p', hp'⟩ : ∃ p' : Int, z * V = p' := ⟨_, rfl⟩
  have hpm' : T % V = T - p' := by rw [Int.emod_def, hz, Int.mul_comm, hp']
  have hp0' : 0 ≤ T - p' := by rw [← hpm']; exact Int.emod_nonneg _ (by omega)
  have hp1' : T - p' < V := by rw [← hpm']; exact Int.emod_lt_of_pos _ (by omega)
  have hp2' : 0 ≤ p' := by rw [← hp']; exact Int.mul_nonneg hz0 (by omega)
  have w1' : IntKind.u64.wrap p' = p' := IntWalk.u64_in _ (by omega)
  have w2' : IntKind.u64.wrap (T - p') = T - p' := IntWalk.u64_in _ (by omega)
  simp only [hp', w1', w2']
  have hfin : q * 4294967296 + z = ((hi : Int) * 18446744073709551616 + lo) / y := by
    have h1 : (U * 4294967296 + L / 4294967296) / V = q * 4294967296 + z := by
      have : U * 4294967296 + L / 4294967296 = T + (q * 4294967296) * V := by
        have : q * 4294967296 * V = p * 4294967296 := by rw [← HP.out, Int.mul_right_comm]
        omega
      rw [this, Int.add_mul_ediv_right _ _ (by omega), hz, Int.add_comm]
    rw [← h1, HN.out, ← HV.out]
    exact Int.mul_ediv_mul_of_pos_left _ _ (by omega)
  have HF := hid_ hfin
  clear he he2 hz hT hp' hpm' w1' w2' hfin g1
  have hb0 : 0 ≤ bits BinOp.and IntKind.u64 L 4294967295 := by
    obtain ⟨l, rfl⟩ := Int.eq_ofNat_of_zero_le hwl0
    have := bits_and_u64_nat l 4294967295 (by omega) (by omega)
    rw [show ((4294967295 : Nat) : Int) = 4294967295 from rfl] at this
    rw [this]; omega
  have hb1 : bits BinOp.and IntKind.u64 L 4294967295 < 4294967296 := by
    obtain ⟨l, rfl⟩ := Int.eq_ofNat_of_zero_le hwl0
    have := bits_and_u64_nat l 4294967295 (by omega) (by omega)
    rw [show ((4294967295 : Nat) : Int) = 4294967295 from rfl] at this
    rw [this]
    have := Nat.and_le_right (n := l) (m := 4294967295)
    omega
  generalize bits BinOp.and IntKind.u64 L 4294967295 = l0 at *
  refine wp_loop_rounds 1 ?_
  rw [rounds_succ]
  have g2' : z * 0 = 0 := by omega
  go_wp2
  go_ret2
  exact ⟨_, ret_ii HF.out rfl, Ex.refl _⟩

set_option maxHeartbeats 2000000 in
theorem Div64_59 (hi lo y : Nat) (w : World) (h0 : 1 ≤ hi) (h1 : hi < y) (h2 : y ≤ 64) (h4 : lo < 18446744073709551616) (hL : 64 - (Lib.bitLen y : Int) = 59) (hy : 16 ≤ y) (hy' : y < 32) :
    Calls Try.prog 64 #[.int .u64 hi, .int .u64 lo, .int .u64 y] w fun e w' => ∃ r : Int, e = .returned (.tuple #[.int .u64 ((hi * 18446744073709551616 + lo) / y), .int .u64 r]) ∧ Ex w w' := by
  have hy0 : ((y : Int) == 0) = false := by simp; omega
  have hh0 : ((hi : Int) == 0) = false := by simp; omega
  have hyh : (hi : Int) < (y : Int) := by omega
  have HL := hid_ hL
  have e1 : bits .and .u64 ((y : Int) * 576460752303423488) 4294967295 = 0 := and_low y 59 (by omega) (by omega)
  have e2 : bits .or .u64 ((hi : Int) * 576460752303423488) ((lo : Int) / 32) = (hi : Int) * 576460752303423488 + (lo : Int) / 32 := by
    have := or_add hi (lo / 32) 59 (by omega) (by omega) (by omega)
    simpa using this
  have hL0 := trivial
  clear hL
  go_enter Try.func64, Try.ntmps64
  go_wp2_with (go_at_call 74; refine (Try.bits_LeadingZeros64 _ _ (by omega) (by omega)).mono ?_; rintro e w1 ⟨rfl, rfl⟩; rw [Int.toNat_natCast, HL.out])
  have hwl0 : 0 ≤ IntKind.u64.wrap ((lo : Int) * 576460752303423488) := by rw [IntKind.wrap_u64]; omega
  have hwl1 : IntKind.u64.wrap ((lo : Int) * 576460752303423488) < 18446744073709551616 := by rw [IntKind.wrap_u64]; omega
  have hN : ((hi : Int) * 576460752303423488 + (lo : Int) / 32) * 4294967296 + IntKind.u64.wrap ((lo : Int) * 576460752303423488) / 4294967296 = ((hi : Int) * 18446744073709551616 + lo) * 134217728 := by rw [IntKind.wrap_u64]; omega
  obtain ⟨V, hV⟩ : ∃ V : Int, (y : Int) * 134217728 = V := ⟨_, rfl⟩
  have hV1 : (y : Int) * 576460752303423488 / 4294967296 = V := by omega
  have hV2 : (y : Int) * 576460752303423488 = V * 4294967296 := by omega
  obtain ⟨U, hU⟩ : ∃ U : Int, (hi : Int) * 576460752303423488 + (lo : Int) / 32 = U := ⟨_, rfl⟩
  have hU0 : 0 ≤ U := by omega
  have hU1 : U < V * 4294967296 := by omega
  have hVp : 1 ≤ V := by omega
  rw [hU] at hN
  simp only [hV1, hU]
  simp only [hV2]
  generalize IntKind.u64.wrap ((lo : Int) * 576460752303423488) = L at *
  obtain ⟨q, hq⟩ : ∃ q : Int, U / V = q := ⟨_, rfl⟩
  have hq0 : 0 ≤ q := by rw [← hq]; exact Int.ediv_nonneg hU0 (by omega)
  have hq1 : q < 4294967296 := by rw [← hq]; exact Int.ediv_lt_of_lt_mul (by omega) (by rw [Int.mul_comm]; exact hU1)
  obtain ⟨p, hp⟩ : ∃ p : Int, q * V = p := ⟨_, rfl⟩
  have hpm : U % V = U - p := by rw [Int.emod_def, hq, Int.mul_comm, hp]
  have hp0 : 0 ≤ U - p := by rw [← hpm]; exact Int.emod_nonneg _ (by omega)
  have hp1 : U - p < V := by rw [← hpm]; exact Int.emod_lt_of_pos _ (by omega)
  have hp2 : 0 ≤ p := by rw [← hp]; exact Int.mul_nonneg hq0 (by omega)
  have hVm : V ≤ 4294967296 := by omega
  simp only [hq, hp]
  have w1' : IntKind.u64.wrap p = p := IntWalk.u64_in _ (by omega)
  have w2' : IntKind.u64.wrap (U - p) = U - p := IntWalk.u64_in _ (by omega)
  simp only [w1', w2']
  have HN := hid_ hN
  have HQ := hid_ hq
  have HP := hid_ hp
  have HM := hid_ hpm
  have HV := hid_ hV
  clear hN hq hp hpm e1 e2 hU hV hV1 hV2 w1' w2' hL0
  refine wp_loop_rounds 1 ?_
  rw [rounds_succ]
  have g1 : ¬ (IntKind.u64.wrap (IntKind.u64.wrap ((U - p) * 4294967296) + L / 4294967296)) < 0 := by rw [IntKind.wrap_u64]; omega
  have g2 : q * 0 = 0 := by omega
  go_wp2
  obtain ⟨T, hT⟩ : ∃ T : Int, (U - p) * 4294967296 + L / 4294967296 = T := ⟨_, rfl⟩
  have hT0 : 0 ≤ T := by omega
  have hT1 : T < V * 4294967296 := by omega
  have he : IntKind.u64.wrap (IntKind.u64.wrap (IntKind.u64.wrap (U * 4294967296) + L / 4294967296) - IntKind.u64.wrap (q * (V * 4294967296))) = T := by
    have : q * (V * 4294967296) = p * 4294967296 := by rw [← HP.out, Int.mul_assoc]
    rw [this]
    simp only [IntKind.wrap_u64]
    omega
  simp only [he]
  obtain ⟨z, hz⟩ : ∃ z : Int, T / V = z := ⟨_, rfl⟩
  have hz0 : 0 ≤ z := by rw [← hz]; exact Int.ediv_nonneg hT0 (by omega)
  have hz1 : z < 4294967296 := by rw [← hz]; exact Int.ediv_lt_of_lt_mul (by omega) (by rw [Int.mul_comm]; exact hT1)
  have he2 : IntKind.u64.wrap (T.tdiv V) = z := by
    rw [Int.tdiv_eq_ediv_of_nonneg hT0, hz]; exact IntWalk.u64_in _ (by omega)
  simp only [he2]
  obtain ⟨p', hp'⟩ : ∃ p' : Int, z * V = p' := ⟨_, rfl⟩
  have hpm' : T % V = T - p' := by rw [Int.emod_def, hz, Int.mul_comm, hp']
  have hp0' : 0 ≤ T - p' := by rw [← hpm']; exact Int.emod_nonneg _ (by omega)
  have hp1' : T - p' < V := by rw [← hpm']; exact Int.emod_lt_of_pos _ (by omega)
  have hp2' : 0 ≤ p' := by rw [← hp']; exact Int.mul_nonneg hz0 (by omega)
  have w1' : IntKind.u64.wrap p' = p' := IntWalk.u64_in _ (by omega)
  have w2' : IntKind.u64.wrap (T - p') = T - p' := IntWalk.u64_in _ (by omega)
  simp only [hp', w1', w2']
  have hfin : q * 4294967296 + z = ((hi : Int) * 18446744073709551616 + lo) / y := by
    have h1 : (U * 4294967296 + L / 4294967296) / V = q * 4294967296 + z := by
      have : U * 4294967296 + L / 4294967296 = T + (q * 4294967296) * V := by
        have : q * 4294967296 * V = p * 4294967296 := by rw [← HP.out, Int.mul_right_comm]
        omega
      rw [this, Int.add_mul_ediv_right _ _ (by omega), hz, Int.add_comm]
    rw [← h1, HN.out, ← HV.out]
    exact Int.mul_ediv_mul_of_pos_left _ _ (by omega)
  have HF := hid_ hfin
  clear he he2 hz hT hp' hpm' w1' w2' hfin g1
  have hb0 : 0 ≤ bits BinOp.and IntKind.u64 L 4294967295 := by
    obtain ⟨l, rfl⟩ := Int.eq_ofNat_of_zero_le hwl0
    have := bits_and_u64_nat l 4294967295 (by omega) (by omega)
    rw [show ((4294967295 : Nat) : Int) = 4294967295 from rfl] at this
    rw [this]; omega
  have hb1 : bits BinOp.and IntKind.u64 L 4294967295 < 4294967296 := by
    obtain ⟨l, rfl⟩ := Int.eq_ofNat_of_zero_le hwl0
    have := bits_and_u64_nat l 4294967295 (by omega) (by omega)
    rw [show ((4294967295 : Nat) : Int) = 4294967295 from rfl] at this
    rw [this]
    have := Nat.and_le_right (n := l) (m := 4294967295)
    omega
  generalize bits BinOp.and IntKind.u64 L 4294967295 = l0 at *
  refine wp_loop_rounds 1 ?_
  rw [rounds_succ]
  have g2' : z * 0 = 0 := by omega
  go_wp2
  go_ret2
  exact ⟨_, ret_ii HF.out rfl, Ex.refl _⟩

set_option maxHeartbeats 2000000 in
theorem Div64_60 (hi lo y : Nat) (w : World) (h0 : 1 ≤ hi) (h1 : hi < y) (h2 : y ≤ 64) (h4 : lo < 18446744073709551616) (hL : 64 - (Lib.bitLen y : Int) = 60) (hy : 8 ≤ y) (hy' : y < 16) :
    Calls Try.prog 64 #[.int .u64 hi, .int .u64 lo, .int .u64 y] w fun e w' => ∃ r : Int, e = .returned (.tuple #[.int .u64 ((hi * 18446744073709551616 + lo) / y), .int .u64 r]) ∧ Ex w w' := by
  have hy0 : ((y : Int) == 0) = false := by simp; omega
  have hh0 : ((hi : Int) == 0) = false := by simp; omega
  have hyh : (hi : Int) < (y : Int) := by omega
  have HL := hid_ hL
  have e1 : bits .and .u64 ((y : Int) * 1152921504606846976) 4294967295 = 0 := and_low y 60 (by omega) (by omega)
  have e2 : bits .or .u64 ((hi : Int) * 1152921504606846976) ((lo : Int) / 16) = (hi : Int) * 1152921504606846976 + (lo : Int) / 16 := by
    have := or_add hi (lo / 16) 60 (by omega) (by omega) (by omega)
    simpa using this
  have hL0 := trivial
  clear hL
  go_enter Try.func64, Try.ntmps64
  go_wp2_with (go_at_call 74; refine (Try.bits_LeadingZeros64 _ _ (by omega) (by omega)).mono ?_; rintro e w1 ⟨rfl, rfl⟩; rw [Int.toNat_natCast, HL.out])
  have hwl0 : 0 ≤ IntKind.u64.wrap ((lo : Int) * 1152921504606846976) := by rw [IntKind.wrap_u64]; omega
  have hwl1 : IntKind.u64.wrap ((lo : Int) * 1152921504606846976) < 18446744073709551616 := by rw [IntKind.wrap_u64]; omega
  have hN : ((hi : Int) * 1152921504606846976 + (lo : Int) / 16) * 4294967296 + IntKind.u64.wrap ((lo : Int) * 1152921504606846976) / 4294967296 = ((hi : Int) * 18446744073709551616 + lo) * 268435456 := by rw [IntKind.wrap_u64]; omega
  obtain ⟨V, hV⟩ : ∃ V : Int, (y : Int) * 268435456 = V := ⟨_, rfl⟩
  have hV1 : (y : Int) * 1152921504606846976 / 4294967296 = V := by omega
  have hV2 : (y : Int) * 1152921504606846976 = V * 4294967296 := by omega
  obtain ⟨U, hU⟩ : ∃ U : Int, (hi : Int) * 1152921504606846976 + (lo : Int) / 16 = U := ⟨_, rfl⟩
  have hU0 : 0 ≤ U := by omega
  have hU1 : U < V * 4294967296 := by omega
  have hVp : 1 ≤ V := by omega
  rw [hU] at hN
  simp only [hV1, hU]
  simp only [hV2]
  generalize IntKind.u64.wrap ((lo : Int) * 1152921504606846976) = L at *
  obtain ⟨q, hq⟩ : ∃ q : Int, U / V = q := ⟨_, rfl⟩
  have hq0 : 0 ≤ q := by rw [← hq]; exact Int.ediv_nonneg hU0 (by omega)
  have hq1 : q < 4294967296 := by rw [← hq]; exact Int.ediv_lt_of_lt_mul (by omega) (by rw [Int.mul_comm]; exact hU1)
  obtain ⟨p, hp⟩ : ∃ p : Int, q * V = p := ⟨_, rfl⟩
  have hpm : U % V = U - p := by rw [Int.emod_def, hq, Int.mul_comm, hp]
  have hp0 : 0 ≤ U - p := by rw [← hpm]; exact Int.emod_nonneg _ (by omega)
  have hp1 : U - p < V := by rw [← hpm]; exact Int.emod_lt_of_pos _ (by omega)
  have hp2 : 0 ≤ p := by rw [← hp]; exact Int.mul_nonneg hq0 (by omega)
  have hVm : V ≤ 4294967296 := by omega
  simp only [hq, hp]
  have w1' : IntKind.u64.wrap p = p := IntWalk.u64_in _ (by omega)
  have w2' : IntKind.u64.wrap (U - p) = U - p := IntWalk.u64_in _ (by omega)
  simp only [w1', w2']
  have HN := hid_ hN
  have HQ := hid_ hq
  have HP := hid_ hp
  have HM := hid_ hpm
  have HV := hid_ hV
  clear hN hq hp hpm e1 e2 hU hV hV1 hV2 w1' w2' hL0
  refine wp_loop_rounds 1 ?_
  rw [rounds_succ]
  have g1 : ¬ (IntKind.u64.wrap (IntKind.u64.wrap ((U - p) * 4294967296) + L / 4294967296)) < 0 := by rw [IntKind.wrap_u64]; omega
  have g2 : q * 0 = 0 := by omega
  go_wp2
  obtain ⟨T, hT⟩ : ∃ T : Int, (U - p) * 4294967296 + L / 4294967296 = T := ⟨_, rfl⟩
  have hT0 : 0 ≤ T := by omega
  have hT1 : T < V * 4294967296 := by omega
  have he : IntKind.u64.wrap (IntKind.u64.wrap (IntKind.u64.wrap (U * 4294967296) + L / 4294967296) - IntKind.u64.wrap (q * (V * 4294967296))) = T := by
    have : q * (V * 4294967296) = p * 4294967296 := by rw [← HP.out, Int.mul_assoc]
    rw [this]
    simp only [IntKind.wrap_u64]
    omega
  simp only [he]
  obtain ⟨z, hz⟩ : ∃ z : Int, T / V = z := ⟨_, rfl⟩
  have hz0 : 0 ≤ z := by rw [← hz]; exact Int.ediv_nonneg hT0 (by omega)
  have hz1 : z < 4294967296 := by rw [← hz]; exact Int.ediv_lt_of_lt_mul (by omega) (by rw [Int.mul_comm]; exact hT1)
  have he2 : IntKind.u64.wrap (T.tdiv V) = z := by
    rw [Int.tdiv_eq_ediv_of_nonneg hT0, hz]; exact IntWalk.u64_in _ (by omega)
  simp only [he2]
  obtain ⟨p', hp'⟩ : ∃ p' : Int, z * V = p' := ⟨_, rfl⟩
  have hpm' : T % V = T - p' := by rw [Int.emod_def, hz, Int.mul_comm, hp']
  have hp0' : 0 ≤ T - p' := by rw [← hpm']; exact Int.emod_nonneg _ (by omega)
  have hp1' : T - p' < V := by rw [← hpm']; exact Int.emod_lt_of_pos _ (by omega)
  have hp2' : 0 ≤ p' := by rw [← hp']; exact Int.mul_nonneg hz0 (by omega)
  have w1' : IntKind.u64.wrap p' = p' := IntWalk.u64_in _ (by omega)
  have w2' : IntKind.u64.wrap (T - p') = T - p' := IntWalk.u64_in _ (by omega)
  simp only [hp', w1', w2']
  have hfin : q * 4294967296 + z = ((hi : Int) * 18446744073709551616 + lo) / y := by
    have h1 : (U * 4294967296 + L / 4294967296) / V = q * 4294967296 + z := by
      have : U * 4294967296 + L / 4294967296 = T + (q * 4294967296) * V := by
        have : q * 4294967296 * V = p * 4294967296 := by rw [← HP.out, Int.mul_right_comm]
        omega
      rw [this, Int.add_mul_ediv_right _ _ (by omega), hz, Int.add_comm]
    rw [← h1, HN.out, ← HV.out]
    exact Int.mul_ediv_mul_of_pos_left _ _ (by omega)
  have HF := hid_ hfin
  clear he he2 hz hT hp' hpm' w1' w2' hfin g1
  have hb0 : 0 ≤ bits BinOp.and IntKind.u64 L 4294967295 := by
    obtain ⟨l, rfl⟩ := Int.eq_ofNat_of_zero_le hwl0
    have := bits_and_u64_nat l 4294967295 (by omega) (by omega)
    rw [show ((4294967295 : Nat) : Int) = 4294967295 from rfl] at this
    rw [this]; omega
  have hb1 : bits BinOp.and IntKind.u64 L 4294967295 < 4294967296 := by
    obtain ⟨l, rfl⟩ := Int.eq_ofNat_of_zero_le hwl0
    have := bits_and_u64_nat l 4294967295 (by omega) (by omega)
    rw [show ((4294967295 : Nat) : Int) = 4294967295 from rfl] at this
    rw [this]
    have := Nat.and_le_right (n := l) (m := 4294967295)
    omega
  generalize bits BinOp.and IntKind.u64 L 4294967295 = l0 at *
  refine wp_loop_rounds 1 ?_
  rw [rounds_succ]
  have g2' : z * 0 = 0 := by omega
  go_wp2
  go_ret2
  exact ⟨_, ret_ii HF.out rfl, Ex.refl _⟩

set_option maxHeartbeats 2000000 in
theorem Div64_61 (hi lo y : Nat) (w : World) (h0 : 1 ≤ hi) (h1 : hi < y) (h2 : y ≤ 64) (h4 : lo < 18446744073709551616) (hL : 64 - (Lib.bitLen y : Int) = 61) (hy : 4 ≤ y) (hy' : y < 8) :
    Calls Try.prog 64 #[.int .u64 hi, .int .u64 lo, .int .u64 y] w fun e w' => ∃ r : Int, e = .returned (.tuple #[.int .u64 ((hi * 18446744073709551616 + lo) / y), .int .u64 r]) ∧ Ex w w' := by
  have hy0 : ((y : Int) == 0) = false := by simp; omega
  have hh0 : ((hi : Int) == 0) = false := by simp; omega
  have hyh : (hi : Int) < (y : Int) := by omega
  have HL := hid_ hL
  have e1 : bits .and .u64 ((y : Int) * 2305843009213693952) 4294967295 = 0 := and_low y 61 (by omega) (by omega)
  have e2 : bits .or .u64 ((hi : Int) * 2305843009213693952) ((lo : Int) / 8) = (hi : Int) * 2305843009213693952 + (lo : Int) / 8 := by
    have := or_add hi (lo / 8) 61 (by omega) (by omega) (by omega)
    simpa using this
  have hL0 := trivial
  clear hL
  go_enter Try.func64, Try.ntmps64
  go_wp2_with (go_at_call 74; refine (Try.bits_LeadingZeros64 _ _ (by omega) (by omega)).mono ?_; rintro e w1 ⟨rfl, rfl⟩; rw [Int.toNat_natCast, HL.out])
  have hwl0 : 0 ≤ IntKind.u64.wrap ((lo : Int) * 2305843009213693952) := by rw [IntKind.wrap_u64]; omega
  have hwl1 : IntKind.u64.wrap ((lo : Int) * 2305843009213693952) < 18446744073709551616 := by rw [IntKind.wrap_u64]; omega
  have hN : ((hi : Int) * 2305843009213693952 + (lo : Int) / 8) * 4294967296 + IntKind.u64.wrap ((lo : Int) * 2305843009213693952) / 4294967296 = ((hi : Int) * 18446744073709551616 + lo) * 536870912 := by rw [IntKind.wrap_u64]; omega
  obtain ⟨V, hV⟩ : ∃ V : Int, (y : Int) * 536870912 = V := ⟨_, rfl⟩
  have hV1 : (y : Int) * 2305843009213693952 / 4294967296 = V := by omega
  have hV2 : (y : Int) * 2305843009213693952 = V * 4294967296 := by omega
  obtain ⟨U, hU⟩ : ∃ U : Int, (hi : Int) * 2305843009213693952 + (lo : Int) / 8 = U := ⟨_, rfl⟩
  have hU0 : 0 ≤ U := by omega
  have hU1 : U < V * 4294967296 := by omega
  have hVp : 1 ≤ V := by omega
  rw [hU] at hN
  simp only [hV1, hU]
  simp only [hV2]
  generalize IntKind.u64.wrap ((lo : Int) * 2305843009213693952) = L at *
  obtain ⟨q, hq⟩ : ∃ q : Int, U / V = q := ⟨_, rfl⟩
  have hq0 : 0 ≤ q := by rw [← hq]; exact Int.ediv_nonneg hU0 (by omega)
  have hq1 : q < 4294967296 := by rw [← hq]; exact Int.ediv_lt_of_lt_mul (by omega) (by rw [Int.mul_comm]; exact hU1)
  obtain ⟨p, hp⟩ : ∃ p : Int, q * V = p := ⟨_, rfl⟩
  have hpm : U % V = U - p := by rw [Int.emod_def, hq, Int.mul_comm, hp]
  have hp0 : 0 ≤ U - p := by rw [← hpm]; exact Int.emod_nonneg _ (by omega)
  have hp1 : U - p < V := by rw [← hpm]; exact Int.emod_lt_of_pos _ (by omega)
  have hp2 : 0 ≤ p := by rw [← hp]; exact Int.mul_nonneg hq0 (by omega)
  have hVm : V ≤ 4294967296 := by omega
  simp only [hq, hp]
  have w1' : IntKind.u64.wrap p = p := IntWalk.u64_in _ (by omega)
  have w2' : IntKind.u64.wrap (U - p) = U - p := IntWalk.u64_in _ (by omega)
  simp only [w1', w2']
  have HN := hid_ hN
  have HQ := hid_ hq
  have HP := hid_ hp
  have HM := hid_ hpm
  have HV := hid_ hV
  clear hN hq hp hpm e1 e2 hU hV hV1 hV2 w1' w2' hL0
  refine wp_loop_rounds 1 ?_
  rw [rounds_succ]
  have g1 : ¬ (IntKind.u64.wrap (IntKind.u64.wrap ((U - p) * 4294967296) + L / 4294967296)) < 0 := by rw [IntKind.wrap_u64]; omega
  have g2 : q * 0 = 0 := by omega
  go_wp2
  obtain ⟨T, hT⟩ : ∃ T : Int, (U - p) * 4294967296 + L / 4294967296 = T := ⟨_, rfl⟩
  have hT0 : 0 ≤ T := by omega
  have hT1 : T < V * 4294967296 := by omega
  have he : IntKind.u64.wrap (IntKind.u64.wrap (IntKind.u64.wrap (U * 4294967296) + L / 4294967296) - IntKind.u64.wrap (q * (V * 4294967296))) = T := by
    have : q * (V * 4294967296) = p * 4294967296 := by rw [← HP.out, Int.mul_assoc]
    rw [this]
    simp only [IntKind.wrap_u64]
    omega
  simp only [he]
  obtain ⟨z, hz⟩ : ∃ z : Int, T / V = z := ⟨_, rfl⟩
  have hz0 : 0 ≤ z := by rw [← hz]; exact Int.ediv_nonneg hT0 (by omega)
  have hz1 : z < 4294967296 := by rw [← hz]; exact Int.ediv_lt_of_lt_mul (by omega) (by rw [Int.mul_comm]; exact hT1)
  have he2 : IntKind.u64.wrap (T.tdiv V) = z := by
    rw [Int.tdiv_eq_ediv_of_nonneg hT0, hz]; exact IntWalk.u64_in _ (by omega)
  simp only [he2]
  obtain ⟨p', hp'⟩ : ∃ p' : Int, z * V = p' := ⟨_, rfl⟩
  have hpm' : T % V = T - p' := by rw [Int.emod_def, hz, Int.mul_comm, hp']
  have hp0' : 0 ≤ T - p' := by rw [← hpm']; exact Int.emod_nonneg _ (by omega)
  have hp1' : T - p' < V := by rw [← hpm']; exact Int.emod_lt_of_pos _ (by omega)
  have hp2' : 0 ≤ p' := by rw [← hp']; exact Int.mul_nonneg hz0 (by omega)
  have w1' : IntKind.u64.wrap p' = p' := IntWalk.u64_in _ (by omega)
  have w2' : IntKind.u64.wrap (T - p') = T - p' := IntWalk.u64_in _ (by omega)
  simp only [hp', w1', w2']
  have hfin : q * 4294967296 + z = ((hi : Int) * 18446744073709551616 + lo) / y := by
    have h1 : (U * 4294967296 + L / 4294967296) / V = q * 4294967296 + z := by
      have : U * 4294967296 + L / 4294967296 = T + (q * 4294967296) * V := by
        have : q * 4294967296 * V = p * 4294967296 := by rw [← HP.out, Int.mul_right_comm]
        omega
      rw [this, Int.add_mul_ediv_right _ _ (by omega), hz, Int.add_comm]
    rw [← h1, HN.out, ← HV.out]
    exact Int.mul_ediv_mul_of_pos_left _ _ (by omega)
  have HF := hid_ hfin
  clear he he2 hz hT hp' hpm' w1' w2' hfin g1
  have hb0 : 0 ≤ bits BinOp.and IntKind.u64 L 4294967295 := by
    obtain ⟨l, rfl⟩ := Int.eq_ofNat_of_zero_le hwl0
    have := bits_and_u64_nat l 4294967295 (by omega) (by omega)
    rw [show ((4294967295 : Nat) : Int) = 4294967295 from rfl] at this
    rw [this]; omega
  have hb1 : bits BinOp.and IntKind.u64 L 4294967295 < 4294967296 := by
    obtain ⟨l, rfl⟩ := Int.eq_ofNat_of_zero_le hwl0
    have := bits_and_u64_nat l 4294967295 (by omega) (by omega)
    rw [show ((4294967295 : Nat) : Int) = 4294967295 from rfl] at this
    rw [this]
    have := Nat.and_le_right (n := l) (m := 4294967295)
    omega
  generalize bits BinOp.and IntKind.u64 L 4294967295 = l0 at *
  refine wp_loop_rounds 1 ?_
  rw [rounds_succ]
  have g2' : z * 0 = 0 := by omega
  go_wp2
  go_ret2
  exact ⟨_, ret_ii HF.out rfl, Ex.refl _⟩

set_option maxHeartbeats 2000000 in
theorem Div64_62 (hi lo y : Nat) (w : World) (h0 : 1 ≤ hi) (h1 : hi < y) (h2 : y ≤ 64) (h4 : lo < 18446744073709551616) (hL : 64 - (Lib.bitLen y : Int) = 62) (hy : 2 ≤ y) (hy' : y < 4) :
    Calls Try.prog 64 #[.int .u64 hi, .int .u64 lo, .int .u64 y] w fun e w' => ∃ r : Int, e = .returned (.tuple #[.int .u64 ((hi * 18446744073709551616 + lo) / y), .int .u64 r]) ∧ Ex w w' := by
  have hy0 : ((y : Int) == 0) = false := by simp; omega
  have hh0 : ((hi : Int) == 0) = false := by simp; omega
  have hyh : (hi : Int) < (y : Int) := by omega
  have HL := hid_ hL
  have e1 : bits .and .u64 ((y : Int) * 4611686018427387904) 4294967295 = 0 := and_low y 62 (by omega) (by omega)
  have e2 : bits .or .u64 ((hi : Int) * 4611686018427387904) ((lo : Int) / 4) = (hi : Int) * 4611686018427387904 + (lo : Int) / 4 := by
    have := or_add hi (lo / 4) 62 (by omega) (by omega) (by omega)
    simpa using this
  have hL0 := trivial
  clear hL
  go_enter Try.func64, Try.ntmps64
  go_wp2_with (go_at_call 74; refine (Try.bits_LeadingZeros64 _ _ (by omega) (by omega)).mono ?_; rintro e w1 ⟨rfl, rfl⟩; rw [Int.toNat_natCast, HL.out])
  have hwl0 : 0 ≤ IntKind.u64.wrap ((lo : Int) * 4611686018427387904) := by rw [IntKind.wrap_u64]; omega
  have hwl1 : IntKind.u64.wrap ((lo : Int) * 4611686018427387904) < 18446744073709551616 := by rw [IntKind.wrap_u64]; omega
  have hN : ((hi : Int) * 4611686018427387904 + (lo : Int) / 4) * 4294967296 + IntKind.u64.wrap ((lo : Int) * 4611686018427387904) / 4294967296 = ((hi : Int) * 18446744073709551616 + lo) * 1073741824 := by rw [IntKind.wrap_u64]; omega
  obtain ⟨V, hV⟩ : ∃ V : Int, (y : Int) * 1073741824 = V := ⟨_, rfl⟩
  have hV1 : (y : Int) * 4611686018427387904 / 4294967296 = V := by omega
  have hV2 : (y : Int) * 4611686018427387904 = V * 4294967296 := by omega
  obtain ⟨U, hU⟩ : ∃ U : Int, (hi : Int) * 4611686018427387904 + (lo : Int) / 4 = U := ⟨_, rfl⟩
  have hU0 : 0 ≤ U := by omega
  have hU1 : U < V * 4294967296 := by omega
  have hVp : 1 ≤ V := by omega
  rw [hU] at hN
  simp only [hV1, hU]
  simp only [hV2]
  generalize IntKind.u64.wrap ((lo : Int) * 4611686018427387904) = L at *
  obtain ⟨q, hq⟩ : ∃ q : Int, U / V = q := ⟨_, rfl⟩
  have hq0 : 0 ≤ q := by rw [← hq]; exact Int.ediv_nonneg hU0 (by omega)
  have hq1 : q < 4294967296 := by rw [← hq]; exact Int.ediv_lt_of_lt_mul (by omega) (by rw [Int.mul_comm]; exact hU1)
  obtain ⟨p, hp⟩ : ∃ p : Int, q * V = p := ⟨_, rfl⟩
  have hpm : U % V = U - p := by rw [Int.emod_def, hq, Int.mul_comm, hp]
  have hp0 : 0 ≤ U - p := by rw [← hpm]; exact Int.emod_nonneg _ (by omega)
  have hp1 : U - p < V := by rw [← hpm]; exact Int.emod_lt_of_pos _ (by omega)
  have hp2 : 0 ≤ p := by rw [← hp]; exact Int.mul_nonneg hq0 (by omega)
  have hVm : V ≤ 4294967296 := by omega
  simp only [hq, hp]
  have w1' : IntKind.u64.wrap p = p := IntWalk.u64_in _ (by omega)
  have w2' : IntKind.u64.wrap (U - p) = U - p := IntWalk.u64_in _ (by omega)
  simp only [w1', w2']
  have HN := hid_ hN
  have HQ := hid_ hq
  have HP := hid_ hp
  have HM := hid_ hpm
  have HV := hid_ hV
  clear hN hq hp hpm e1 e2 hU hV hV1 hV2 w1' w2' hL0
  refine wp_loop_rounds 1 ?_
  rw [rounds_succ]
  have g1 : ¬ (IntKind.u64.wrap (IntKind.u64.wrap ((U - p) * 4294967296) + L / 4294967296)) < 0 := by rw [IntKind.wrap_u64]; omega
  have g2 : q * 0 = 0 := by omega
  go_wp2
  obtain ⟨T, hT⟩ : ∃ T : Int, (U - p) * 4294967296 + L / 4294967296 = T := ⟨_, rfl⟩
  have hT0 : 0 ≤ T := by omega
  have hT1 : T < V * 4294967296 := by omega
  have he : IntKind.u64.wrap (IntKind.u64.wrap (IntKind.u64.wrap (U * 4294967296) + L / 4294967296) - IntKind.u64.wrap (q * (V * 4294967296))) = T := by
    have : q * (V * 4294967296) = p * 4294967296 := by rw [← HP.out, Int.mul_assoc]
    rw [this]
    simp only [IntKind.wrap_u64]
    omega
  simp only [he]
  obtain ⟨z, hz⟩ : ∃ z : Int, T / V = z := ⟨_, rfl⟩
  have hz0 : 0 ≤ z := by rw [← hz]; exact Int.ediv_nonneg hT0 (by omega)
  have hz1 : z < 4294967296 := by rw [← hz]; exact Int.ediv_lt_of_lt_mul (by omega) (by rw [Int.mul_comm]; exact hT1)
  have he2 : IntKind.u64.wrap (T.tdiv V) = z := by
    rw [Int.tdiv_eq_ediv_of_nonneg hT0, hz]; exact IntWalk.u64_in _ (by omega)
  simp only [he2]
  obtain ⟨p', hp'⟩ : ∃ p' : Int, z * V = p' := ⟨_, rfl⟩
  have hpm' : T % V = T - p' := by rw [Int.emod_def, hz, Int.mul_comm, hp']
  have hp0' : 0 ≤ T - p' := by rw [← hpm']; exact Int.emod_nonneg _ (by omega)
  have hp1' : T - p' < V := by rw [← hpm']; exact Int.emod_lt_of_pos _ (by omega)
  have hp2' : 0 ≤ p' := by rw [← hp']; exact Int.mul_nonneg hz0 (by omega)
  have w1' : IntKind.u64.wrap p' = p' := IntWalk.u64_in _ (by omega)
  have w2' : IntKind.u64.wrap (T - p') = T - p' := IntWalk.u64_in _ (by omega)
  simp only [hp', w1', w2']
  have hfin : q * 4294967296 + z = ((hi : Int) * 18446744073709551616 + lo) / y := by
    have h1 : (U * 4294967296 + L / 4294967296) / V = q * 4294967296 + z := by
      have : U * 4294967296 + L / 4294967296 = T + (q * 4294967296) * V := by
        have : q * 4294967296 * V = p * 4294967296 := by rw [← HP.out, Int.mul_right_comm]
        omega
      rw [this, Int.add_mul_ediv_right _ _ (by omega), hz, Int.add_comm]
    rw [← h1, HN.out, ← HV.out]
    exact Int.mul_ediv_mul_of_pos_left _ _ (by omega)
  have HF := hid_ hfin
  clear he he2 hz hT hp' hpm' w1' w2' hfin g1
  have hb0 : 0 ≤ bits BinOp.and IntKind.u64 L 4294967295 := by
    obtain ⟨l, rfl⟩ := Int.eq_ofNat_of_zero_le hwl0
    have := bits_and_u64_nat l 4294967295 (by omega) (by omega)
    rw [show ((4294967295 : Nat) : Int) = 4294967295 from rfl] at this
    rw [this]; omega
  have hb1 : bits BinOp.and IntKind.u64 L 4294967295 < 4294967296 := by
    obtain ⟨l, rfl⟩ := Int.eq_ofNat_of_zero_le hwl0
    have := bits_and_u64_nat l 4294967295 (by omega) (by omega)
    rw [show ((4294967295 : Nat) : Int) = 4294967295 from rfl] at this
    rw [this]
    have := Nat.and_le_right (n := l) (m := 4294967295)
    omega
  generalize bits BinOp.and IntKind.u64 L 4294967295 = l0 at *
  refine wp_loop_rounds 1 ?_
  rw [rounds_succ]
  have g2' : z * 0 = 0 := by omega
  go_wp2
  go_ret2
  exact ⟨_, ret_ii HF.out rfl, Ex.refl _⟩


end Go.Proofs.Ytdnmhjpeklaijaa
