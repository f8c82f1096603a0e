/- Walks of the references: Exp, Product, Choose. -/
import Derived.Test.YtdnmhjpeklaijaaNumB
import Derived.Test.YtdnmhjpeklaijaaNumR
namespace Go.Proofs.Ytdnmhjpeklaijaa
set_option linter.unusedVariables false
set_option linter.unusedSimpArgs false
open Go.RowKit

set_option maxHeartbeats 1000000 in
theorem rExp_any (q k m : Int) (w : World) (hq : q ≤ 9223372036854775807) (hk : k ≤ 9223372036854775807) (hm : m ≤ 9223372036854775807) :
    Calls Try.prog 32 #[.int .i64 q, .int .i64 k, .int .i64 m] w fun r w' => r = .returned (.tuple #[.int .i64 (expS q k m).1, .int .i64 (expS q k m).2]) ∧ Ex w w' := by
  by_cases hneg : q < 0 ∨ k < 0 ∨ m < 0
  · have HS := hid_ (show expS q k m = (0, 6) by simp only [expS, if_pos hneg])
    have c : q < 0 ∨ (0 ≤ q ∧ k < 0) ∨ (0 ≤ q ∧ 0 ≤ k ∧ m < 0) := by omega
    clear hneg
    rcases c with c1 | ⟨c1, c2⟩ | ⟨c1, c2, c3⟩
    all_goals
      go_enter Try.func32, Try.ntmps32
      go_wp2
      go_ret2
      rw [HS.out]
      exact ⟨rfl, Ex.refl _⟩
  · have q0 : 0 ≤ q := by omega
    have k0 : 0 ≤ k := by omega
    have mm0 : 0 ≤ m := by omega
    have HS := hid_ (show expS q k m = if q ^ k.toNat ≤ m then (q ^ k.toNat, 0) else (0, 8) by simp only [expS, if_neg hneg])
    clear hneg
    by_cases c1 : q = 0 ∧ 0 < k
    · obtain ⟨rfl, c2⟩ := c1
      go_enter Try.func32, Try.ntmps32
      go_wp2
      go_ret2
      rw [HS.out, Int.zero_pow (by omega), if_pos mm0]
      exact ⟨rfl, Ex.refl _⟩
    · have hz : (q == 0) = false ∨ (q = 0 ∧ k = 0) := by
        by_cases h : q = 0
        · right; omega
        · left; simpa using h
      clear c1
      rcases hz with hz | ⟨z1, z2⟩
      case inr =>
        subst z1; subst z2
        by_cases hm1 : 1 ≤ m
        · have HS2 := hid_ (show expS 0 0 m = (1, 0) by rw [HS.out]; simp; omega)
          go_enter Try.func32, Try.ntmps32
          go_wp2
          refine wp_loop_rounds 1 ?_
          rw [rounds_succ]
          go_wp2
          go_ret2
          rw [HS2.out]
          exact ⟨rfl, Ex.refl _⟩
        · have HS2 := hid_ (show expS 0 0 m = (0, 8) by rw [HS.out]; simp; omega)
          have hm0 : m < 1 := by omega
          go_enter Try.func32, Try.ntmps32
          go_wp2
          refine wp_loop_rounds 1 ?_
          rw [rounds_succ]
          go_wp2
          go_ret2
          rw [HS2.out]
          exact ⟨rfl, Ex.refl _⟩
      case inl =>
        have hq1 : 1 ≤ q := by
          rcases Int.lt_or_eq_of_le q0 with h | h
          · omega
          · rw [← h] at hz; simp at hz
        go_enter Try.func32, Try.ntmps32
        go_wp2
        go_loopw [8, 9] (fun o' i' wr => ∃ i o : Int, i' = .int .i64 i ∧ o' = .int .i64 o ∧ 0 ≤ i ∧ i ≤ k ∧ 1 ≤ o ∧ o ≤ 9223372036854775807 ∧ Hid (o * q ^ (k - i).toNat = q ^ k.toNat) ∧ Ex w wr) (fun _ i' _ => (k - intOf i').toNat)
        case atStart => exact ⟨_, _, rfl, rfl, by omega, by omega, by omega, by omega, hid_ (by simp), Ex.refl _⟩
        case round =>
          obtain ⟨i, o, rfl, rfl, i0, i1, o0, o1, hp, hx⟩ := hrel
          by_cases hy : i < k
          · by_cases hq2 : 1 < q
            · by_cases ho : m / q < o
              · have hb : m < q ^ k.toNat := by
                  rw [← hp.out, show (k - i).toNat = ((k - i).toNat - 1) + 1 by omega]
                  exact expS_step o0 (by omega) mm0 ho
                have HB := hid_ hb; clear hb
                go_wp2
                go_ret2
                rw [HS.out, if_neg (by have := HB.out; omega)]
                exact ⟨rfl, hx⟩
              · have hb : o * q ≤ m := by
                  have h1 := Int.mul_le_mul_of_nonneg_right (show o ≤ m / q by omega) q0
                  have h2 := Int.ediv_mul_le m (b := q) (by omega)
                  omega
                have hb0 : 1 ≤ o * q := by
                  have := Int.mul_pos (show 0 < o by omega) (show 0 < q by omega)
                  omega
                go_wp2
                go_roundw
                case rel => exact ⟨_, _, rfl, rfl, by omega, by omega, hb0, by omega, hid_ (by rw [← hp.out, show (k - i).toNat = (k - (i + 1)).toNat + 1 by omega, Int.pow_succ, Int.mul_assoc, Int.mul_comm q]), hx⟩
                case measure => simp [intOf]; omega
            · have hv : q ^ k.toNat = o := by
                obtain rfl : q = 1 := by omega
                rw [← hp.out, Int.one_pow]; simp
              have HV := hid_ hv; clear hv
              by_cases hom : m < o
              · go_wp2
                go_ret2
                rw [HS.out, HV.out, if_neg (by omega)]
                exact ⟨rfl, hx⟩
              · have hom' : o ≤ m := by omega
                go_wp2
                go_ret2
                rw [HS.out, HV.out, if_pos (by omega)]
                exact ⟨rfl, hx⟩
          · have hv : q ^ k.toNat = o := by
              rw [← hp.out, show (k - i).toNat = 0 by omega, Int.pow_zero, Int.mul_one]
            have HV := hid_ hv; clear hv
            by_cases hom : m < o
            · go_wp2
              go_ret2
              rw [HS.out, HV.out, if_neg (by omega)]
              exact ⟨rfl, hx⟩
            · have hom' : o ≤ m := by omega
              go_wp2
              go_ret2
              rw [HS.out, HV.out, if_pos (by omega)]
              exact ⟨rfl, hx⟩

set_option maxHeartbeats 2000000 in
theorem rProduct_any (m : Int) (l : List Int) (v : Value) (w : World) (hl : ISl w v l) (hm : m ≤ 9223372036854775807) (hb : ∀ x ∈ l, x ≤ 9223372036854775807) :
    Calls Try.prog 30 #[.int .i64 m, v] w fun r w' => r = .returned (.tuple #[.int .i64 (prodS m l).1, .int .i64 (prodS m l).2]) ∧ Ex w w' := by
  obtain ⟨sa, cap, rfl, s1, s2, s3⟩ := hl.open
  unfold maxLen at s2
  have S3 := hid_ s3
  have HB := hid_ hb
  clear s3 hb hl
  have HS := hid_ (show prodS m l = if (decide (m < 0) || l.any fun x => decide (x < 0)) = true then (0, 6) else if (l.any (· == 0)) = true then (0, 0) else if prodL l ≤ m then (prodL l, 0) else (0, 8) from rfl)
  go_enter Try.func30, Try.ntmps30
  go_wp2
  go_loopw [6, 7] (fun z' i' wr => ∃ (i : Nat) (z : Bool), z' = .bool z ∧ i' = .int .i64 i ∧ i ≤ l.length ∧ Hid (z = (l.take i).any (· == 0)) ∧ Hid (∀ j y, j < i → l[j]? = some y → 0 ≤ y) ∧ Ex w wr) (fun _ i' _ => l.length - (intOf i').toNat)
  case atStart => exact ⟨0, false, rfl, rfl, by omega, hid_ rfl, hid_ (by intro j y h; omega), Ex.refl _⟩
  case round =>
    obtain ⟨i, z, rfl, rfl, hi, hz, hall, hx⟩ := hrel
    by_cases hlt : i < l.length
    · obtain ⟨y, hy⟩ : ∃ y, l[i]? = some y := ⟨_, List.getElem?_eq_getElem hlt⟩
      obtain ⟨b, o, rfl, hc⟩ := S3.out (by omega)
      have c1 := hx.cell (hc i y hy)
      have HY := hid_ hy
      clear hc hy
      by_cases hy0 : y < 0
      · have HS2 := hid_ (show prodS m l = (0, 6) by
          rw [HS.out, if_pos]
          rw [Bool.or_eq_true]; right
          exact List.any_eq_true.2 ⟨y, List.mem_of_getElem? HY.out, by simpa using hy0⟩)
        go_wp2
        go_ret2
        rw [HS2.out]
        exact ⟨rfl, hx⟩
      · have hy1 : 0 ≤ y := by omega
        have hall' : ∀ j t, j < i + 1 → l[j]? = some t → 0 ≤ t := by
          intro j t hj ht
          by_cases e : j = i
          · subst e; rw [HY.out] at ht; injection ht with ht; subst ht; exact hy1
          · exact hall.out j t (by omega) ht
        have hz' : (z || (y == 0)) = (l.take (i + 1)).any (· == 0) := by
          rw [take_snoc_ HY.out, List.any_append, ← hz.out]; simp
        have HA := hid_ hall'
        have HZ := hid_ hz'
        clear hall hall' hz hz' hy0
        cases hzz : z
        · subst hzz
          cases hyy : (y == 0)
          all_goals
            rw [hyy] at HZ
            go_wp2
            go_roundw
            case rel => exact ⟨i + 1, _, rfl, by go_num, by omega, HZ, HA, hx⟩
            case measure => simp [intOf]; omega
        · subst hzz
          rw [Bool.true_or] at HZ
          go_wp2
          go_roundw
          case rel => exact ⟨i + 1, _, rfl, by go_num, by omega, HZ, HA, hx⟩
          case measure => simp [intOf]; omega
    · obtain rfl : i = l.length := by omega
      have hn : (l.any fun x => decide (x < 0)) = false := by
        rw [List.any_eq_false]
        intro x hxm
        obtain ⟨j, hj, rfl⟩ := List.mem_iff_getElem.1 hxm
        have := hall.out j _ hj (List.getElem?_eq_getElem hj)
        simp; omega
      have hzl := hz.out
      rw [List.take_length] at hzl
      by_cases hm0 : m < 0
      · have HS2 := hid_ (show prodS m l = (0, 6) by rw [HS.out, if_pos (by simp [hm0])])
        clear hn hzl
        go_wp2
        go_ret2
        rw [HS2.out]
        exact ⟨rfl, hx⟩
      · have hm1 : 0 ≤ m := by omega
        cases hzz : z
        · rw [hzz] at hzl
          subst hzz
          have HA := hid_ (all_pos_of hn hzl.symm)
          have HS2 := hid_ (show prodS m l = if prodL l ≤ m then (prodL l, 0) else (0, 8) by
            rw [HS.out, if_neg (by rw [hn]; simp; omega), if_neg (by rw [← hzl]; simp)])
          have hbd : ∀ k, 1 ≤ prodL (l.take k) ∧ prodL (l.take k) ≤ prodL l := fun k => ⟨prodL_pos _ fun x hx => HA.out x (List.mem_of_mem_take hx), prodL_take_le l k HA.out⟩
          have HBD := hid_ hbd
          clear hbd hn hzl hz hall
          go_wp2
          go_loopw [8, 9] (fun o' k' wy => ∃ k : Nat, o' = .int .i64 (prodL (l.take k)) ∧ k' = .int .i64 k ∧ k ≤ l.length ∧ prodL (l.take k) ≤ 9223372036854775807 ∧ Ex wr wy) (fun _ k' _ => l.length - (intOf k').toNat)
          case atStart => exact ⟨0, by simp [prodL], rfl, by omega, by simp [prodL], Ex.refl _⟩
          case round =>
            obtain ⟨k, rfl, rfl, hk, ho, hx5⟩ := hrel
            have hx6 := hx.trans hx5
            by_cases hlt : k < l.length
            · obtain ⟨x, hxk⟩ : ∃ x, l[k]? = some x := ⟨_, List.getElem?_eq_getElem hlt⟩
              obtain ⟨b, o, rfl, hc⟩ := S3.out (by omega)
              have c1 := hx6.cell (hc k x hxk)
              have x1 := HA.out x (List.mem_of_getElem? hxk)
              have x2 := HB.out x (List.mem_of_getElem? hxk)
              obtain ⟨p1, p2⟩ := HBD.out k
              have hst : prodL (l.take (k + 1)) = prodL (l.take k) * x := by rw [take_snoc_ hxk, prodL_append]; simp [prodL]
              have hup := (HBD.out (k + 1)).2
              rw [hst] at hup
              have HST := hid_ hst
              clear hc hxk hst
              generalize prodL (l.take k) = q at *
              have hmt0 : 0 ≤ m / x := Int.ediv_nonneg (by omega) (by omega)
              have hmt1 : m / x ≤ m := Int.ediv_le_self _ (by omega)
              by_cases hlt2 : m / x < q
              · have hbig := lt_of_div_lt x1 hlt2
                have HS3 := hid_ (show prodS m l = (0, 8) by rw [HS2.out, if_neg (by omega)])
                clear hup hbig
                go_wp2
                go_ret2
                rw [HS3.out]
                exact ⟨rfl, hx6⟩
              · have hle := le_of_le_div x1 (show q ≤ m / x by omega)
                have hpos : 0 ≤ q * x := Int.mul_nonneg (by omega) (by omega)
                clear hup
                go_wp2
                go_roundw
                case rel => exact ⟨k + 1, by rw [HST.out], by go_num, by omega, by rw [HST.out]; omega, hx5⟩
                case measure => simp [intOf]; omega
            · obtain rfl : k = l.length := by omega
              rw [List.take_length] at *
              by_cases hle : prodL l ≤ m
              · have HS3 := hid_ (show prodS m l = (prodL l, 0) by rw [HS2.out, if_pos hle])
                go_wp2
                go_ret2
                rw [HS3.out]
                exact ⟨rfl, hx6⟩
              · have HS3 := hid_ (show prodS m l = (0, 8) by rw [HS2.out, if_neg hle])
                have hle' : m < prodL l := by omega
                clear hle
                go_wp2
                go_ret2
                rw [HS3.out]
                exact ⟨rfl, hx6⟩
        · rw [hzz] at hzl
          subst hzz
          have HS2 := hid_ (show prodS m l = (0, 0) by
            rw [HS.out, if_neg (by rw [hn]; simp; omega), if_pos hzl.symm])
          clear hn hzl hz
          go_wp2
          go_ret2
          rw [HS2.out]
          exact ⟨rfl, hx⟩

set_option maxHeartbeats 4000000 in
theorem rChoose_any (n k m : Int) (w : World) (hn : n ≤ 9223372036854775807) (hk : k ≤ 9223372036854775807) (hm : m ≤ 9223372036854775807) :
    Calls Try.prog 34 #[.int .i64 n, .int .i64 k, .int .i64 m] w fun r w' => r = .returned (.tuple #[.int .i64 (chooseS n k m).1, .int .i64 (chooseS n k m).2]) ∧ Ex w w' := by
  have HS := hid_ (show chooseS n k m = if n < 0 ∨ k < 0 ∨ m < 0 then (0, 6) else if n < k then (0, 0) else if (choose n.toNat k.toNat : Int) ≤ m then (((choose n.toNat k.toNat : Nat) : Int), 0) else (0, 8) from rfl)
  by_cases hneg : n < 0 ∨ k < 0 ∨ m < 0
  · have HS2 := hid_ (show chooseS n k m = (0, 6) by rw [HS.out, if_pos hneg])
    have c : n < 0 ∨ (0 ≤ n ∧ k < 0) ∨ (0 ≤ n ∧ 0 ≤ k ∧ m < 0) := by omega
    clear hneg
    rcases c with c1 | ⟨c1, c2⟩ | ⟨c1, c2, c3⟩
    all_goals
      go_enter Try.func34, Try.ntmps34
      go_wp2
      go_ret2
      rw [HS2.out]
      exact ⟨rfl, Ex.refl _⟩
  have n0 : 0 ≤ n := by omega
  have k0 : 0 ≤ k := by omega
  have mm0 : 0 ≤ m := by omega
  by_cases hkn : n < k
  · have HS2 := hid_ (show chooseS n k m = (0, 0) by rw [HS.out, if_neg hneg, if_pos hkn])
    clear hneg
    go_enter Try.func34, Try.ntmps34
    go_wp2
    go_ret2
    rw [HS2.out]
    exact ⟨rfl, Ex.refl _⟩
  have HS2 := hid_ (show chooseS n k m = if (choose n.toNat k.toNat : Int) ≤ m then (((choose n.toNat k.toNat : Nat) : Int), 0) else (0, 8) by rw [HS.out, if_neg hneg, if_neg hkn])
  clear hneg HS
  obtain ⟨n, rfl⟩ := Int.eq_ofNat_of_zero_le n0
  obtain ⟨k, rfl⟩ := Int.eq_ofNat_of_zero_le k0
  obtain ⟨m, rfl⟩ := Int.eq_ofNat_of_zero_le mm0
  have hkn' : k ≤ n := by omega
  have hcm := choose_min n k hkn'
  have HS3 := hid_ (show chooseS n k m = if choose n k ≤ m then (((choose n k : Nat) : Int), 0) else (0, 8) by rw [HS2.out, Int.toNat_natCast, Int.toNat_natCast]; simp only [Int.ofNat_le])
  clear HS2 hkn n0 k0 mm0
  obtain ⟨j, hj⟩ : ∃ j, min k (n - k) = j := ⟨_, rfl⟩
  obtain ⟨d, hd⟩ : ∃ d, n - j = d := ⟨_, rfl⟩
  have hjd : j ≤ d := by omega
  have hdn : d + j = n := by omega
  rw [hj, hd] at hcm
  have HC := hid_ hcm
  have hcase : (j = k ∧ (k : Int) ≤ (n : Int) - (k : Int)) ∨ ((n : Int) - (k : Int) = (j : Int) ∧ (j : Int) < (k : Int)) := by omega
  have hnj : (n : Int) - (j : Int) = (d : Int) := by omega
  have hbk : decide (n < k) = false := by simp; omega
  clear hcm hj hd hdn
  rcases hcase with ⟨hc0, hc1⟩ | ⟨hc1, hc2⟩
  case' inl => (have hkj : (k : Int) = (j : Int) := by omega)
  case' inl => (have hmin : min (j : Int) (d : Int) = (j : Int) := by omega)
  case' inr => (have hmin : min (k : Int) (j : Int) = (j : Int) := by omega)
  all_goals
    go_enter Try.func34, Try.ntmps34
    go_wp2
    try simp only [hmin]
    go_loopw [8, 9] (fun o' i' wr => ∃ i : Nat, o' = .int .i64 (choose (d + i) i) ∧ i' = .int .i64 ((i + 1 : Nat) : Int) ∧ i ≤ j ∧ choose (d + i) i ≤ 9223372036854775807 ∧ Ex w wr) (fun _ i' _ => j + 1 - (intOf i').toNat)
    case atStart => exact ⟨0, by simp [choose_zero], by go_num, by omega, by rw [choose_zero]; omega, Ex.refl _⟩
    case round =>
      obtain ⟨i, rfl, rfl, hi, hle, hx⟩ := hrel
      have hmono0 := choose_mono d i j hi
      rw [← HC.out] at hmono0
      by_cases hom : m < choose (d + i) i
      · have HS4 := hid_ (show chooseS n k m = (0, 8) by rw [HS3.out, if_neg (by omega)])
        clear hmono0
        generalize choose (d + i) i = c at *
        have hom' : (m : Int) < (c : Int) := by omega
        by_cases hlt : i < j
        · go_wp2
          go_ret2
          first | rw [HS4.out] | (rw [← hkj]; rw [HS4.out])
          exact ⟨rfl, hx⟩
        · obtain rfl : i = j := by omega
          go_wp2
          go_ret2
          first | rw [HS4.out] | (rw [← hkj]; rw [HS4.out])
          exact ⟨rfl, hx⟩
      · by_cases hlt : i < j
        · obtain ⟨c, hc⟩ : ∃ c, choose (d + i) i = c := ⟨_, rfl⟩
          obtain ⟨q, hq⟩ : ∃ q, choose (d + (i + 1)) (i + 1) = q := ⟨_, rfl⟩
          have hst := choose_step d i
          have hmono := choose_mono d (i + 1) j hlt
          rw [hc, hq] at hst
          rw [hc] at hle hom
          rw [hq, ← HC.out] at hmono
          simp only [hc]
          obtain ⟨e, he⟩ : ∃ e, i + 1 = e := ⟨_, rfl⟩
          obtain ⟨u, hu⟩ : ∃ u, d + (i + 1) = u := ⟨_, rfl⟩
          have hu' : d + e = u := by omega
          rw [he, hu'] at hst
          have hu2 : (d : Int) + (e : Int) = (u : Int) := by omega
          have hul : u ≤ n := by omega
          have HE := hid_ he
          have HQ := hid_ hq
          simp only [he]
          have he1 : 1 ≤ e := by omega
          have hej : (e : Int) ≤ (j : Int) := by omega
          obtain ⟨e', c', x1, x2, x3, x4, x5, x6, x7, x8⟩ := choose_div he1 hst
          have HG := fun w => hid_ (rgcd_any c e w hle (by omega))
          obtain ⟨g, hg⟩ : ∃ g, Nat.gcd c e = g := ⟨_, rfl⟩
          rw [hg] at HG x1 x2 x6 x7
          obtain ⟨t, ht⟩ : ∃ t, u / e' = t := ⟨_, rfl⟩
          have htu : t ≤ u := by rw [← ht]; exact Nat.div_le_self _ _
          have r1 : (e : Int) / (g : Int) = (e' : Int) := by rw [← x1]; simp
          have r2 : (c : Int) / (g : Int) = (c' : Int) := by rw [← x2]; simp
          have r3 : (u : Int) / (e' : Int) = (t : Int) := by rw [← ht]; simp
          rw [ht] at x8
          have ht1 : 1 ≤ t := by
            rcases Nat.eq_zero_or_pos t with h0 | h0
            · exfalso
              rw [h0, Nat.mul_zero] at x8
              have := choose_pos (d + (i + 1)) (i + 1) (by omega)
              omega
            · exact h0
          have hct : (c' : Int) * (t : Int) = (q : Int) := by rw [← x8, Int.natCast_mul]
          have hom' : (c : Int) ≤ (m : Int) := by omega
          have hmt0 : 0 ≤ (m : Int) / (t : Int) := Int.ediv_nonneg (by omega) (by omega)
          have hmt1 : (m : Int) / (t : Int) ≤ (m : Int) := Int.ediv_le_self _ (by omega)
          clear hc hq hst he hu hu' x1 x2 ht hg hmono0
          by_cases hqm : m < q
          · have HS4 := hid_ (show chooseS n k m = (0, 8) by rw [HS3.out, if_neg (by omega)])
            have hd2 : (m : Int) / (t : Int) < (c' : Int) := Int.ediv_lt_of_lt_mul (by omega) (by rw [hct]; omega)
            clear hmono x8
            go_wp2_with (go_at_call 59; refine (HG _).out.mono ?_; rintro x w1 ⟨rfl, hx1⟩)
            go_ret2
            first | rw [HS4.out] | (rw [← hkj]; rw [HS4.out])
            exact ⟨rfl, hx.trans hx1⟩
          · have hqm' : (q : Int) ≤ (m : Int) := by omega
            have hd2 : (c' : Int) ≤ (m : Int) / (t : Int) := Int.le_ediv_of_mul_le (by omega) (by rw [hct]; omega)
            clear hmono x8
            go_wp2_with (go_at_call 59; refine (HG _).out.mono ?_; rintro x w1 ⟨rfl, hx1⟩)
            go_roundw
            case rel => exact ⟨i + 1, by rw [HQ.out], by have := HE.out; go_num, by omega, by rw [HQ.out]; omega, hx.trans hx1⟩
            case measure => have := HE.out; simp [intOf]; omega
        · obtain rfl : i = j := by omega
          have HS4 := hid_ (show chooseS n k m = (((choose (d + i) i : Nat) : Int), 0) by rw [HS3.out, HC.out, if_pos (by omega)])
          clear hmono0
          generalize choose (d + i) i = c at *
          have hom' : (c : Int) ≤ (m : Int) := by omega
          go_wp2
          go_ret2
          first | rw [HS4.out] | (rw [← hkj]; rw [HS4.out])
          exact ⟨rfl, hx⟩

end Go.Proofs.Ytdnmhjpeklaijaa
