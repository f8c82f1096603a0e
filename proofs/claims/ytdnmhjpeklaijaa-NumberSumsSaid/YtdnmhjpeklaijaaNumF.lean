/- Walk of Order. -/
import Derived.Test.YtdnmhjpeklaijaaNumE
namespace Go.Proofs.Ytdnmhjpeklaijaa
set_option linter.unusedVariables false
set_option linter.unusedSimpArgs false
open Go.RowKit

set_option maxHeartbeats 2000000 in
theorem Order_yes (a n : Int) (w : World) (ha : -9223372036854775808 ≤ a) (ha' : a ≤ 9223372036854775807) (h1 : 1 ≤ n) (h2 : n ≤ 2147483647) (hg : Int.gcd (a % n) n = 1) :
    Calls Try.prog 24 #[.int .i64 a, .int .i64 n] w fun r w' => r = .returned (.tuple #[.int .i64 (ordP (a % n) n), .int .i64 0]) ∧ Ex w w' := by
  have hin : inB 1 n = true := inB_mk h1 h2
  have m0 := Int.emod_nonneg a (b := n) (by omega)
  have m1 := Int.emod_lt_of_pos a (b := n) (by omega)
  obtain ⟨c, hc⟩ := Int.eq_ofNat_of_zero_le m0
  obtain ⟨m, rfl⟩ := Int.eq_ofNat_of_zero_le (show 0 ≤ n by omega)
  have hc' : a % (m : Int) = (c : Int) := hc
  rw [hc'] at hg m1
  have hg1 : Nat.gcd c m = 1 := hg
  have hg' : (((Nat.gcd c m : Nat) : Int) != 1) = false := by rw [hg1]; rfl
  have hP : ordP (a % (m : Int)) m = ordL c m (facs (phi m)) (phi m) := by rw [hc']; rfl
  have HP := hid_ hP
  have hphi : phi m ≤ m := phiGo_le _ _
  have hphi1 := phi_pos (n := m) (by omega)
  have hge := facs_ge (phi m)
  have hmu : ∀ x ∈ facs (phi m), x.2 ≤ 2147483647 := by
    intro x hx
    exact Nat.le_trans (facs_exp_le _ x hx) (by omega)
  have HG := hid_ hge
  have HM := hid_ hmu
  clear hmu hge hP m0 hc hg hg1
  have hgn : c % m = c := Nat.mod_eq_of_lt (by omega)
  go_enter Try.func24, Try.ntmps24
  go_wp2_with (first | (go_at_call 49; refine (in_any _ _ _).mono ?_; rintro e w1 ⟨rfl, rfl⟩) | (go_at_call 52; refine (mod_any _ _ _ h1 h2 ha ha').mono ?_; rintro e w1 ⟨rfl, rfl⟩; rw [hc']) | (go_at_call 57; refine (gcd_any _ _ _ (by omega) (by omega)).mono ?_; rintro e w1 ⟨rfl, hx⟩) | (go_at_call 17; refine (Factor_yes _ _ hphi1 (by omega)).mono ?_; rintro e w3 ⟨v, rfl, hsl, hx3⟩; obtain ⟨sa, cap, rfl, s1, s2, s3⟩ := PSl.open hsl) | (go_at_call 39; refine (Phi_yes _ _ (by omega) (by omega)).mono ?_; rintro e w2 ⟨rfl, hx2⟩))
  have hx4 := (hx.trans hx2).trans hx3
  clear hx hx2 hx3 hsl hin hg' hgn hc'
  generalize phi m = f at *
  generalize facs f = l at *
  unfold maxLen at s2
  have S3 := hid_ s3; clear s3
  go_loopw [6, 34] (fun k' i' wr => ∃ i : Nat, k' = .int .i64 (ordL c m (l.take i) f) ∧ i' = .int .i64 i ∧ i ≤ l.length ∧ Ex w3 wr) (fun _ i' _ => l.length - (intOf i').toNat)
  case atStart => exact ⟨0, by simp [ordL], rfl, by omega, Ex.refl _⟩
  case round =>
    obtain ⟨i, rfl, rfl, hi, hx1⟩ := hrel
    by_cases hlt : i < l.length
    · obtain ⟨x, hxk⟩ : ∃ x, l[i]? = some x := ⟨_, List.getElem?_eq_getElem hlt⟩
      obtain ⟨b, o, rfl, hcc⟩ := S3.out (by omega)
      obtain ⟨c1, c2⟩ := hcc i x hxk
      replace c1 := hx1.cell c1
      replace c2 := hx1.cell c2
      obtain ⟨g1, g2, g3⟩ := HG.out x (List.mem_of_getElem? hxk)
      have g4 := HM.out x (List.mem_of_getElem? hxk)
      have hle := ordL_le c m (l.take i) f
      have hst := ordL_append c m x (l.take i) f
      rw [← take_snoc_ hxk] at hst
      have HS := hid_ hst
      clear hst hcc hxk
      generalize ordL c m (l.take i) f = k at *
      go_wp2
      obtain ⟨B, hB⟩ : ∃ B, wr.heap.size = B := ⟨_, rfl⟩
      have d0 : (wr.alloc (.cells #[.int .i64 x.1, .int .i64 x.2] 29)).cell? ⟨B, 0, none⟩ = some (.int .i64 x.1) := by rw [← hB]; simp
      have hx5 := hx1.alloc (.cells #[.int .i64 x.1, .int .i64 x.2] 29)
      simp only [hB]
      generalize wr.alloc (.cells #[.int .i64 x.1, .int .i64 x.2] 29) = w5 at d0 hx5 ⊢
      clear hB c1 c2 hx1
      go_loopw [6, 40] (fun k' j' wy => ∃ j k2 : Nat, k' = .int .i64 k2 ∧ j' = .int .i64 j ∧ j ≤ x.2 ∧ k2 ≤ k ∧ Hid (ordIn c m x.1 (x.2 - j) k2 = ordIn c m x.1 x.2 k) ∧ wy.cell? ⟨B, 0, none⟩ = some (.int .i64 x.1) ∧ Ex w3 wy) (fun _ j' _ => x.2 - (intOf j').toNat)
      case atStart => exact ⟨0, k, rfl, rfl, by omega, by omega, hid_ rfl, d0, hx5⟩
      case round =>
        clear d0 hx5
        obtain ⟨j, k2, rfl, rfl, hj, hk2, hp, d0, hx5⟩ := hrel
        have q1 : (k2 : Int) / (x.1 : Int) = ((k2 / x.1 : Nat) : Int) := by simp
        have q2 := Nat.div_le_self k2 x.1
        have e0 := Int.emod_nonneg 1 (b := (m : Int)) (by omega)
        have e1 := Int.emod_lt_of_pos 1 (b := (m : Int)) (by omega)
        by_cases hjl : j < x.2
        · by_cases ht : (c : Int) ^ (k2 / x.1) % (m : Int) = 1 % (m : Int)
          · have ht' : (((c : Int) ^ (k2 / x.1) % (m : Int)) != (1 % (m : Int))) = false := by rw [ht]; simp
            have H1 := hid_ (ordIn_yes (e := x.2 - (j + 1)) ht)
            have Q1 := hid_ q1
            clear ht q1
            generalize k2 / x.1 = k3 at *
            have HC := (power_any c k3 m · (by omega) h2 (by omega) m1 (by omega) (by omega))
            have HC' := fun w => hid_ (HC w)
            clear HC
            go_wp2
            go_quiet ((go_at_call 55; rw [Q1.out, w64 (by omega) (by omega)]; exact quiet_left (HC' _).out))
            go_wp2
            go_roundw
            case rel => exact ⟨j + 1, k3, by rw [Q1.out, w64 (by omega) (by omega)], by go_num, by omega, by omega, hid_ (by rw [← hp.out, show x.2 - j = x.2 - (j + 1) + 1 by omega, H1.out]), d0, hx5.drewN _⟩
            case measure => simp [intOf]; omega
          · have ht' : (((c : Int) ^ (k2 / x.1) % (m : Int)) != (1 % (m : Int))) = true := by rw [bne_iff_ne]; exact ht
            have H1 := hid_ (ordIn_no (e := x.2 - j) ht)
            have Q1 := hid_ q1
            clear ht q1
            generalize k2 / x.1 = k3 at *
            have HC := (power_any c k3 m · (by omega) h2 (by omega) m1 (by omega) (by omega))
            have HC' := fun w => hid_ (HC w)
            clear HC
            have hst : ordL c m (List.take (i + 1) l) f = k2 := by rw [HS.out, ← hp.out, H1.out]
            have HS2 := hid_ hst
            clear hst
            go_wp2
            go_quiet ((go_at_call 55; rw [Q1.out, w64 (by omega) (by omega)]; exact quiet_left (HC' _).out))
            go_wp2
            go_roundw
            case rel => exact ⟨i + 1, by rw [HS2.out], by go_num, by omega, hx5.drewN _⟩
            case measure => simp [intOf]; omega
        · obtain rfl : j = x.2 := by omega
          have hst : ordL c m (List.take (i + 1) l) f = k2 := by rw [HS.out, ← hp.out, Nat.sub_self]; rfl
          have HS2 := hid_ hst
          clear hst
          go_wp2
          go_roundw
          case rel => exact ⟨i + 1, by rw [HS2.out], by go_num, by omega, hx5⟩
          case measure => simp [intOf]; omega
    · obtain rfl : i = l.length := by omega
      rw [List.take_length] at *
      go_wp2
      go_ret2
      exact ⟨ret_ii (by rw [HP.out]) rfl, hx4.trans hx1⟩

set_option maxHeartbeats 1000000 in
theorem Order_none (a n : Int) (w : World) (ha : -9223372036854775808 ≤ a) (ha' : a ≤ 9223372036854775807) (h1 : 1 ≤ n) (h2 : n ≤ 2147483647) (hg : Int.gcd (a % n) n ≠ 1) :
    Calls Try.prog 24 #[.int .i64 a, .int .i64 n] w fun r w' => r = .returned (.tuple #[.int .i64 0, .int .i64 11]) ∧ Ex w w' := by
  have hin : inB 1 n = true := inB_mk h1 h2
  have m0 := Int.emod_nonneg a (b := n) (by omega)
  have m1 := Int.emod_lt_of_pos a (b := n) (by omega)
  obtain ⟨c, hc⟩ := Int.eq_ofNat_of_zero_le m0
  obtain ⟨m, rfl⟩ := Int.eq_ofNat_of_zero_le (show 0 ≤ n by omega)
  have hc' : a % (m : Int) = (c : Int) := hc
  rw [hc'] at hg m1
  have hg1 : Nat.gcd c m ≠ 1 := hg
  have hg' : (((Nat.gcd c m : Nat) : Int) != 1) = true := by rw [bne_iff_ne]; omega
  have hgn : c % m = c := Nat.mod_eq_of_lt (by omega)
  clear m0 hc hg hg1
  go_enter Try.func24, Try.ntmps24
  go_wp2_with (first | (go_at_call 49; refine (in_any _ _ _).mono ?_; rintro e w1 ⟨rfl, rfl⟩) | (go_at_call 52; refine (mod_any _ _ _ h1 h2 ha ha').mono ?_; rintro e w1 ⟨rfl, rfl⟩; rw [hc']) | (go_at_call 57; refine (gcd_any _ _ _ (by omega) (by omega)).mono ?_; rintro e w1 ⟨rfl, hx⟩))
  go_ret2
  exact ⟨rfl, hx⟩

set_option maxHeartbeats 1000000 in
theorem Order_no (a n : Int) (w : World) (h : ¬ (1 ≤ n ∧ n ≤ 2147483647)) :
    Calls Try.prog 24 #[.int .i64 a, .int .i64 n] w fun r w' => r = .returned (.tuple #[.int .i64 0, .int .i64 6]) ∧ Ex w w' := by
  have hin : inB 1 n = false := inB_false h
  clear h
  go_enter Try.func24, Try.ntmps24
  go_wp2_with (first | (go_at_call 49; refine (in_any _ _ _).mono ?_; rintro e w1 ⟨rfl, rfl⟩))
  go_ret2
  exact ⟨rfl, Ex.refl _⟩

end Go.Proofs.Ytdnmhjpeklaijaa
