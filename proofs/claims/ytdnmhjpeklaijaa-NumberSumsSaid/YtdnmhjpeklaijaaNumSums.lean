/- The walk of the law NumberSums. -/
import Derived.Test.YtdnmhjpeklaijaaNumK
import Derived.Test.YtdnmhjpeklaijaaNumX
import Derived.Test.YtdnmhjpeklaijaaNumZ
namespace Go.Proofs.Ytdnmhjpeklaijaa
set_option linter.unusedVariables false
set_option linter.unusedSimpArgs false
open Go.RowKit

theorem cnt_le (P : Nat → Bool) : ∀ n, cnt P n ≤ n
  | 0 => Nat.le_refl _
  | n + 1 => by simp only [cnt]; have := cnt_le P n; split <;> omega
theorem sm_phi_take {v : Nat} {L : List Nat} (h : IsDivs v L) (hv : 1 ≤ v) (k : Nat) : 0 ≤ sm (fun d => (phi d : Int)) (L.take k) ∧ sm (fun d => (phi d : Int)) (L.take k) ≤ v * k := by
  induction k with
  | zero => simp [sm]
  | succ k ih =>
    rcases hd : L[k]? with _ | d
    · rw [List.take_of_length_le (by have := List.getElem?_eq_none_iff.1 hd; omega)]
      have hh := List.getElem?_eq_none_iff.1 hd
      rw [List.take_of_length_le hh] at ih
      have := Int.mul_le_mul_of_nonneg_left (show (k : Int) ≤ ((k + 1 : Nat) : Int) by omega) (show (0 : Int) ≤ v by omega)
      omega
    · rw [take_snoc_ hd, sm_append]
      have h1 := (h.pos hv d (List.mem_of_getElem? hd)).2
      have h2 := phiGo_le d (facs d)
      have h3 : phi d ≤ v := Nat.le_trans h2 h1
      simp only [sm]
      have : (v : Int) * ((k + 1 : Nat) : Int) = v * k + v := by rw [Int.natCast_add, Int.mul_add]; simp
      omega
theorem moe_rng (d : Nat) : -1 ≤ moe d ∧ moe d ≤ 1 := moeGo_rng (facs d) 1 (by omega) (by omega)
theorem sm_moe_take (L : List Nat) (k : Nat) : - (k : Int) ≤ sm moe (L.take k) ∧ sm moe (L.take k) ≤ k := by
  induction k with
  | zero => simp [sm]
  | succ k ih =>
    rcases hd : L[k]? with _ | d
    · have hh := List.getElem?_eq_none_iff.1 hd
      rw [List.take_of_length_le (by omega)]
      rw [List.take_of_length_le hh] at ih
      omega
    · rw [take_snoc_ hd, sm_append]
      have := moe_rng d
      simp only [sm]
      omega

set_option maxRecDepth 100000 in
set_option maxHeartbeats 4000000 in
theorem NumberSums_any (n : Int) (w : World) (hn : 0 ≤ n ∧ n ≤ 65535) :
    Calls Try.prog 15 #[.int .u16 n] w fun r w' => r = .returned (.bool true) ∧ Ex w w' := by
  obtain ⟨n1, n2⟩ := hn
  obtain ⟨v, hv⟩ : ∃ v : Nat, n % 3000 + 1 = (v : Int) := ⟨(n % 3000 + 1).toNat, by omega⟩
  have v1 : 1 ≤ v := by omega
  have v2 : v ≤ 3000 := by omega
  have n3 : 0 ≤ n % 3000 := by omega
  have n4 : n % 3000 < 3000 := by omega
  have HPH := hid_ (Phi_yes v · v1 (by omega))
  have HDV := hid_ (Divisors_yes v · v1 (by omega))
  have HC := hid_ (cop_phi v1)
  obtain ⟨f, hf⟩ : ∃ f, phi v = f := ⟨_, rfl⟩
  rw [hf] at HPH HC
  clear hf
  go_enter Try.func15, Try.ntmps15
  go_wp2_with fail
  refine (awake_any _).mono ?_
  rintro e w1 ⟨rfl, hx1⟩
  go_wp2_with fail
  refine (HPH.out _).mono ?_
  rintro e w2 ⟨rfl, hx2⟩
  go_wp2_with fail
  refine (HDV.out _).mono ?_
  rintro e w3 ⟨dv, L, rfl, hL, hsl, hx3⟩
  have hLl := isDivs_len v1 hL
  have HL := hid_ hL
  obtain ⟨la, lcap, rfl, s1, s2, s3⟩ := nis_open hsl
  unfold maxLen at s2
  have S3 := hid_ s3
  have HX := hid_ ((hx1.trans hx2).trans hx3)
  clear HPH HDV hL hsl hx1 hx2 hx3 hv s3 n1 n2 n3 n4
  go_wp2_with fail
  go_loopw [8, 9, 10, 11] (fun c' i' _ _ wr => ∃ i : Nat, c' = .int .i64 (cnt (copB v) i) ∧ i' = .int .i64 ((i : Int) + 1) ∧ i ≤ v ∧ Ex w3 wr) (fun _ i' _ _ _ => v + 1 - (intOf i').toNat)
  case atStart => exact ⟨0, rfl, rfl, by omega, Ex.refl _⟩
  case round =>
    obtain ⟨i, rfl, rfl, hi, hx⟩ := hrel
    have hcl := cnt_le (copB v) i
    have hcf := hid_ (show i = v → cnt (copB v) i = f from fun h => by rw [h]; exact HC.out)
    have hst := hid_ (show cnt (copB v) (i + 1) = cnt (copB v) i + if copB v (i + 1) then 1 else 0 from rfl)
    generalize cnt (copB v) i = c at *
    by_cases hlt : i < v
    · obtain ⟨wo, rfl⟩ : ∃ wo : World, wo = wr := ⟨_, rfl⟩
      go_wp2_with fail
      go_loopw [10, 11] (fun x y wr => ∃ p q : Nat, p ≤ 9223372036854775807 ∧ q ≤ 9223372036854775807 ∧ x = .int .i64 p ∧ y = .int .i64 q ∧ Hid (Nat.gcd p q = Nat.gcd (i + 1) v) ∧ Ex w3 wr) (fun _ y _ => (intOf y).toNat)
      case atStart => exact ⟨i + 1, v, by omega, by omega, by go_num, rfl, hid_ rfl, hx⟩
      case round =>
        clear hx
        obtain ⟨p, q, hp, hq, rfl, rfl, hg, hbel⟩ := hrel
        by_cases hz : q = 0
        · subst hz
          have hg' := hg.out
          rw [Nat.gcd_zero_right] at hg'
          have HB : Hid (copB v (i + 1) = decide (p = 1)) := hid_ (by unfold copB; rw [← hg', Bool.eq_iff_iff]; simp)
          clear hg hg'
          by_cases h1 : p = 1
          · subst h1
            go_wp2_with fail
            go_roundw
            case rel => exact ⟨i + 1, by rw [hst.out, HB.out]; simp, by go_num, by omega, hbel⟩
            case measure => simp [intOf]; omega
          · have h1' : ((p : Int) == 1) = false := by simp; omega
            have HN := hid_ h1
            clear h1
            go_wp2_with fail
            go_roundw
            case rel => exact ⟨i + 1, by rw [hst.out, HB.out]; simp [HN.out], by go_num, by omega, hbel⟩
            case measure => simp [intOf]; omega
        · have hz' : ((q : Int) == 0) = false := by simp; omega
          have hz2 : ((q : Int) != 0) = true := by simp; omega
          have hq1 : 1 ≤ q := by omega
          go_wp2_with fail
          go_region
          all_goals
            go_wp2_with fail
            go_roundw
            case rel => exact ⟨q, p % q, hq, by have := Nat.mod_lt p hq1; omega, rfl, by go_num, hid_ (by rw [← hg.out, Nat.gcd_comm p q, Nat.gcd_rec q p, Nat.gcd_comm]), hbel.drew⟩
            case measure => simp [intOf]; have := Nat.mod_lt p hq1; omega
    · have hiv : i = v := by omega
      obtain rfl : c = f := hcf.out hiv
      clear hcf hst HC hi
      subst hiv
      have HS1 := hid_ (phi_sum v1 HL.out)
      have HS2 := hid_ (moe_sum v1 HL.out)
      have HPt := hid_ (sm_phi_take HL.out v1)
      have HMt := hid_ (sm_moe_take L)
      have HPo := hid_ (HL.out.pos v1)
      have HDd := hid_ (HL.out.2)
      go_wp2_with fail
      obtain ⟨wo, rfl⟩ : ∃ wo : World, wo = wr := ⟨_, rfl⟩
      go_loopw [12, 13, 62] (fun s' m' j' wr => ∃ j : Nat, s' = .int .i64 (sm (fun d => (phi d : Int)) (L.take j)) ∧ m' = .int .i64 (sm moe (L.take j)) ∧ j' = .int .i64 j ∧ j ≤ L.length ∧ Ex w3 wr) (fun _ _ j' _ => L.length - (intOf j').toNat)
      case atStart => exact ⟨0, rfl, rfl, rfl, by omega, hx⟩
      case round =>
        clear hx
        obtain ⟨j, rfl, rfl, rfl, hj, hx⟩ := hrel
        have hpt := HPt.out j
        have hmt := HMt.out j
        have hvj : (i : Int) * j ≤ 9000000 := by
          have := Int.mul_le_mul (show (i : Int) ≤ 3000 by omega) (show (j : Int) ≤ 3000 by omega) (by omega) (by omega)
          omega
        have HSt := hid_ (show ∀ d, L[j]? = some d → sm (fun d => (phi d : Int)) (L.take (j + 1)) = sm (fun d => (phi d : Int)) (L.take j) + phi d ∧ sm moe (L.take (j + 1)) = sm moe (L.take j) + moe d from fun d h => by
          rw [take_snoc_ h, sm_append, sm_append]; simp [sm])
        have HSe := hid_ (show j = L.length → sm (fun d => (phi d : Int)) (L.take j) = i ∧ sm moe (L.take j) = if i = 1 then 1 else 0 from fun h => by
          rw [h, List.take_length]; exact ⟨HS1.out, HS2.out⟩)
        generalize sm (fun d => (phi d : Int)) (L.take j) = sp at *
        generalize sm moe (L.take j) = so at *
        have hpt1 := hpt.1
        have hpt2 : sp ≤ 9000000 := by omega
        have hmt1 : -3000 ≤ so := by omega
        have hmt2 : so ≤ 3000 := by omega
        clear hpt hmt hvj
        by_cases hlt : j < L.length
        · obtain ⟨d, hd⟩ : ∃ d, L[j]? = some d := ⟨_, List.getElem?_eq_getElem hlt⟩
          obtain ⟨b, o, rfl, hc⟩ := S3.out (by omega)
          have c1 := hx.cell (hc j d hd)
          obtain ⟨e1, e2⟩ := HSt.out d hd
          have E1 := hid_ e1
          have E2 := hid_ e2
          have hdm := List.mem_of_getElem? hd
          obtain ⟨d1, d2⟩ := HPo.out d hdm
          have hdv : (i : Int) % (d : Int) = 0 := by rw [← Int.natCast_emod, Nat.mod_eq_zero_of_dvd ((HDd.out d).1 hdm)]; rfl
          have HP := hid_ (Phi_yes d · d1 (by omega))
          have HM := hid_ (Moebius_yes d · d1 (by omega))
          have hpl : phi d ≤ d := phiGo_le d (facs d)
          have hml := moe_rng d
          generalize phi d = pd at *
          generalize moe d = md at *
          clear e1 e2 hc hd hdm HSt HSe
          go_wp2_with fail
          refine (HP.out _).mono ?_
          rintro e w4 ⟨rfl, hx4⟩
          go_wp2_with fail
          refine (HM.out _).mono ?_
          rintro e w5 ⟨rfl, hx5⟩
          go_wp2_with fail
          go_roundw
          case rel => exact ⟨j + 1, by rw [E1.out], by rw [E2.out], by go_num, by omega, (hx.trans hx4).trans hx5⟩
          case measure => simp [intOf]; omega
        · have hjl : j = L.length := by omega
          obtain ⟨rfl, hso⟩ := HSe.out hjl
          clear HSe HSt
          by_cases h1 : i = 1
          · rw [if_pos h1] at hso
            subst hso
            have h1' : ((i : Int) == 1) = true := by simp; omega
            go_wp2_with fail
            go_ret
            exact ⟨rfl, HX.out.trans hx⟩
          · rw [if_neg h1] at hso
            subst hso
            have h1' : ((i : Int) == 1) = false := by simp; omega
            have H1 := hid_ h1
            clear h1
            go_wp2_with fail
            go_ret
            exact ⟨rfl, HX.out.trans hx⟩
end Go.Proofs.Ytdnmhjpeklaijaa
