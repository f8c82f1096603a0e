/- The order of a permutation: bounds; walks of Order, of the program and of the reference. -/
import Derived.Test.YtgfdhclpffakfaaGreatZa14
namespace Go.Proofs.YtgfdhclpffakfaaGreat
set_option linter.unusedVariables false
set_option linter.unusedSimpArgs false
open Go.RowKit

/-- How many points are marked. -/
def cntB (n : Nat) (s : Nat → Bool) : Nat := (List.range n).countP s
theorem cntB_le (n : Nat) (s : Nat → Bool) : cntB n s ≤ n := by
  unfold cntB
  have := List.countP_le_length (p := s) (l := List.range n)
  simpa using this
theorem cntB_congr {n : Nat} {s t : Nat → Bool} (h : ∀ x, x < n → s x = t x) : cntB n s = cntB n t := by
  unfold cntB
  refine List.countP_congr fun x hx => ?_
  rw [h x (List.mem_range.1 hx)]
theorem cntB_succ (n : Nat) (s : Nat → Bool) : cntB (n + 1) s = cntB n s + if s n = true then 1 else 0 := by
  unfold cntB
  rw [List.range_succ, List.countP_append, List.countP_singleton]
theorem cntB_upd {s : Nat → Bool} {x : Nat} : ∀ {n : Nat}, x < n → s x = false → cntB n (upd s x true) = cntB n s + 1
  | 0, h, _ => by omega
  | n + 1, h, hs => by
    rw [cntB_succ, cntB_succ]
    by_cases e : x = n
    · subst e
      rw [upd_same, hs, cntB_congr (t := s) fun y hy => upd_ne _ _ (by omega)]
      simp
    · rw [upd_ne _ _ (by omega : n ≠ x), cntB_upd (by omega) hs]
      omega
theorem cntB_seenK {n : Nat} {f : Nat → Nat} (hf : IsP n f) {i : Nat} (hi : i < n) (hm : minP n f i = true) : ∀ k, k ≤ perP n f i → cntB n (seenK n f i k) = cntB n (seenI n f i) + k
  | 0, _ => by rw [seenK_zero]; rfl
  | k + 1, hk => by
    have h1 := cntB_seenK hf hi hm k (by omega)
    have h2 := seenK_at hf hi hm (k := k) (by omega)
    rw [decide_eq_false (by omega)] at h2
    have h3 := cntB_upd ((isP_pw hf k).lt i hi) h2
    rw [← Nat.add_assoc, ← h1, ← h3]
    refine cntB_congr fun x _ => ?_
    rw [seenK_succ]
    rfl
/-- The lengths of the cycles sum up to at most n. -/
theorem cycs_sum {n : Nat} {f : Nat → Nat} (hf : IsP n f) : ∀ m, m ≤ n → ((cycsK n f m).map List.length).sum ≤ cntB n (seenI n f m)
  | 0, _ => by unfold cycsK; simp
  | m + 1, hm => by
    have ih := cycs_sum hf m (by omega)
    rw [cycsK_succ]
    cases h : minP n f m with
    | false =>
      rw [if_neg (by simp), List.append_nil, ← cntB_congr fun x hx => seenI_nomin hf (by omega) hx h]
      exact ih
    | true =>
      rw [← cntB_congr fun x hx => seenI_min hf (by omega) hx h, cntB_seenK hf (by omega) h _ (Nat.le_refl _)]
      split
      · rw [List.map_append, List.sum_append]
        have : (cycP n f m).length = perP n f m := by unfold cycP; simp
        simp [this]
        omega
      · rw [List.append_nil]; omega
theorem cube_le : ∀ L : Nat, L ≤ 64 → L ^ 3 ≤ 3 ^ L := by decide
/-- The least common multiple of a list. -/
def lcmL (l : List Nat) : Nat := l.foldl Nat.lcm 1
theorem lcmL_cube : ∀ l : List Nat, (∀ x ∈ l, x ≤ 64) → ∀ a s : Nat, a ^ 3 ≤ 3 ^ s → (l.foldl Nat.lcm a) ^ 3 ≤ 3 ^ (s + l.sum)
  | [], _, a, s, h => by simpa using h
  | x :: l, hl, a, s, h => by
    have h1 : (Nat.lcm a x) ^ 3 ≤ 3 ^ (s + x) := by
      have h2 : Nat.lcm a x ≤ a * x := Nat.div_le_self _ _
      calc (Nat.lcm a x) ^ 3 ≤ (a * x) ^ 3 := Nat.pow_le_pow_left h2 3
        _ = a ^ 3 * x ^ 3 := Nat.mul_pow _ _ _
        _ ≤ 3 ^ s * 3 ^ x := Nat.mul_le_mul h (cube_le x (hl x (List.mem_cons_self ..)))
        _ = 3 ^ (s + x) := (Nat.pow_add _ _ _).symm
    have h3 := lcmL_cube l (fun y hy => hl y (List.mem_cons_of_mem _ hy)) _ _ h1
    rw [List.sum_cons, ← Nat.add_assoc]
    exact h3
theorem cube_bound {a : Nat} (h : a ^ 3 ≤ 3 ^ 64) : a ≤ 31381059609 := by
  apply Classical.byContradiction
  intro hn
  have h1 : 31381059610 ^ 3 ≤ a ^ 3 := Nat.pow_le_pow_left (by omega) 3
  have h2 : (3 : Nat) ^ 64 < 31381059610 ^ 3 := by decide
  omega
theorem take_sum_le : ∀ (l : List Nat) (k : Nat), (l.take k).sum ≤ l.sum
  | [], k => by simp
  | x :: l, 0 => by simp
  | x :: l, k + 1 => by
    have := take_sum_le l k
    simp only [List.take_succ_cons, List.sum_cons]
    omega
/-- The lengths of the cycles. -/
def lensP (n : Nat) (f : Nat → Nat) : List Nat := (cycsK n f n).map List.length
theorem mem_cycs {n : Nat} {f : Nat → Nat} {m : Nat} {c : List Int} (h : c ∈ cycsK n f m) : ∃ i, i < m ∧ minP n f i = true ∧ 1 < perP n f i ∧ c = cycP n f i ∧ c.length = perP n f i := by
  unfold cycsK at h
  obtain ⟨i, hi, rfl⟩ := List.mem_map.1 h
  obtain ⟨h1, h2⟩ := List.mem_filter.1 hi
  rw [Bool.and_eq_true, decide_eq_true_eq] at h2
  exact ⟨i, List.mem_range.1 h1, h2.1, h2.2, rfl, by unfold cycP; simp⟩
theorem lcm_bound {n : Nat} {f : Nat → Nat} (hf : IsP n f) (hn : n ≤ 64) (k : Nat) : lcmL ((lensP n f).take k) ≤ 31381059609 := by
  apply cube_bound
  have h1 := lcmL_cube ((lensP n f).take k) (fun x hx => by
    obtain ⟨c, hc, rfl⟩ := List.mem_map.1 (List.mem_of_mem_take hx)
    obtain ⟨i, hi, _, _, _, h⟩ := mem_cycs hc
    rw [h]
    have := (perP_facts hf hi).2.1
    omega) 1 0 (by decide)
  refine Nat.le_trans h1 (Nat.pow_le_pow_right (by omega) ?_)
  have h2 := take_sum_le (lensP n f) k
  have h3 := cycs_sum hf n (Nat.le_refl _)
  have h4 := cntB_le n (seenI n f n)
  unfold lensP at *
  omega
theorem lcm_pos {l : List Nat} (hl : ∀ x ∈ l, 1 ≤ x) : ∀ a, 1 ≤ a → 1 ≤ l.foldl Nat.lcm a := by
  induction l with
  | nil => intro a h; exact h
  | cons x l ih => intro a h; exact ih (fun y hy => hl y (List.mem_cons_of_mem _ hy)) _ (Nat.lcm_pos h (hl x (List.mem_cons_self ..)))
theorem lcm_step {l : List Nat} {k x : Nat} (h : l[k]? = some x) : lcmL (l.take (k + 1)) = Nat.lcm (lcmL (l.take k)) x := by
  unfold lcmL
  rw [List.take_add_one, h, List.foldl_append]; rfl
theorem lcm_div (a b : Nat) : a / Nat.gcd a b * b = Nat.lcm a b := by
  unfold Nat.lcm
  rw [Nat.div_mul_right_comm (Nat.gcd_dvd_left a b)]
def ordS (l : List Int) : Int × Int := if pchk l ≠ 0 then (0, pchk l) else ((lcmL (lensP l.length (fnL l)) : Int), 0)
set_option maxRecDepth 100000 in
set_option maxHeartbeats 2000000 in
theorem Order_any (w : World) (l : List Int) (v : Value) (hl : ISl w v l) :
    Calls Tryz.prog 17 #[v] w fun r w' => r = .returned (.tuple #[.int .i64 (ordS l).1, .int .i64 (ordS l).2]) ∧ Ex w w' := by
  have HCY := hid_ (Cycles_any w l v hl)
  obtain ⟨a, cap, rfl, _, _, _⟩ := hl.open
  obtain ⟨e, he⟩ : ∃ e, pchk l = e := ⟨_, rfl⟩
  by_cases h0 : e = 0
  · subst h0
    obtain ⟨n, f, h1, h2, hn, hf, rfl⟩ := pchk_ok he
    have HP := hid_ (show ordS (li n f) = ((lcmL (lensP n f) : Int), 0) from by unfold ordS; rw [he, if_neg (by decide), fnL_li hf, li_len])
    have HCS := hid_ (show cycS (li n f) = (cycsK n f n, 0) from by unfold cycS; rw [he, if_neg (by decide), fnL_li hf, li_len])
    have HF := hid_ hf
    rw [li_len] at HCY ⊢
    have HCL := hid_ (cycsK_len n f n)
    clear he hn hf hl
    go_enter Tryz.func17, Tryz.ntmps17
    go_wp2_with fail
    refine HCY.out.mono ?_
    rintro e w1 ⟨⟨cv, he, hcv⟩, hx1⟩
    rw [HCS.out] at he hcv
    subst he
    have hcv : MSl w1 cv (cycsK n f n) := hcv
    obtain ⟨ca, cc, rfl, c1, c2, c3⟩ := hcv.open
    have C3 := hid_ c3
    have HX1 := hid_ hx1
    have hcl : (cycsK n f n).length ≤ 64 := by have := HCL.out; omega
    clear c3 hcv hx1 HCY HCS
    go_wp2_with fail
    go_loopw [6, 21] (fun o' k' wr => ∃ k : Nat, k ≤ (cycsK n f n).length ∧ k' = .int .i64 k ∧ o' = .int .i64 (lcmL ((lensP n f).take k) : Int) ∧ Hid (Ex w1 wr)) (fun _ k' _ => (cycsK n f n).length - (intOf k').toNat)
    case atStart => exact ⟨0, by omega, rfl, by simp [lcmL], hid_ (Ex.refl _)⟩
    case round =>
      obtain ⟨k, hk, rfl, rfl, hx⟩ := hrel
      by_cases hkn : k < (cycsK n f n).length
      · obtain ⟨c, hck⟩ : ∃ c, (cycsK n f n)[k]? = some c := ⟨_, List.getElem?_eq_getElem hkn⟩
        obtain ⟨i, hi, _, hL1, _, hcL⟩ := mem_cycs (List.mem_of_getElem? hck)
        have hLn := (perP_facts HF.out hi).2.1
        obtain ⟨b, o, rfl, hc⟩ := C3.out (by omega)
        obtain ⟨u, d1, hu⟩ := hc k c hck
        obtain ⟨ua, uc, rfl, _, _, _⟩ := hu.open
        have d1 := hx.out.cell d1
        have i1 : (0 : Int) ≤ (k : Int) := by omega
        have i2 : (k : Int) < ((cycsK n f n).length : Int) := by omega
        have HST := hid_ (lcm_step (l := lensP n f) (k := k) (x := c.length) (by unfold lensP; rw [List.getElem?_map, hck]; rfl))
        have HB0 := lcm_bound HF.out h2 k
        have HB1 := lcm_bound HF.out h2 (k + 1)
        obtain ⟨A, hA⟩ : ∃ A, lcmL ((lensP n f).take k) = A := ⟨_, rfl⟩
        obtain ⟨L, hL⟩ : ∃ L, c.length = L := ⟨_, rfl⟩
        rw [hA, hL] at HST
        rw [hA] at HB0 ⊢
        rw [hL] at d1 hcL
        have hL1 : 1 < L := by omega
        have hLn : L ≤ 64 := by omega
        have HAP1 := hid_ (show 1 ≤ A from by
          rw [← hA]
          refine lcm_pos (fun x hx => ?_) 1 (Nat.le_refl _)
          obtain ⟨c', hc', rfl⟩ := List.mem_map.1 (List.mem_of_mem_take hx)
          obtain ⟨i', _, _, h3, _, h4⟩ := mem_cycs hc'
          omega)
        have HB2 : Nat.lcm A L ≤ 31381059609 := by rw [← HST.out]; exact HB1
        clear hc hu hck hA hL hcL HB1
        go_wp2_with fail
        go_loopw [9, 10] (fun x' y' wr => ∃ p q : Nat, p ≤ 31381059609 ∧ q ≤ 64 ∧ x' = .int .i64 p ∧ y' = .int .i64 q ∧ Hid (Nat.gcd p q = Nat.gcd A L) ∧ Hid (1 ≤ p) ∧ Hid (Ex w1 wr)) (fun _ y _ => (intOf y).toNat)
        case atStart => exact ⟨A, L, HB0, by omega, rfl, rfl, hid_ rfl, HAP1, hx⟩
        case round =>
          obtain ⟨p, q, hp, hq, rfl, rfl, hg, hp1, hx⟩ := hrel
          by_cases hz : q = 0
          · subst hz
            have hg1 : p = Nat.gcd A L := by have := hg.out; rwa [Nat.gcd_zero_right] at this
            have hp1' := hp1.out
            have HD := hid_ (show A / p * L = Nat.lcm A L from by rw [hg1]; exact lcm_div A L)
            have HDW := hid_ (show wrap64 ((A : Int) / (p : Int)) = ((A / p : Nat) : Int) from w64_div A p (by omega))
            have HMW := hid_ (show wrap64 (((A / p : Nat) : Int) * (L : Int)) = ((Nat.lcm A L : Nat) : Int) from by
              rw [← HD.out, Int.natCast_mul]
              refine w64 ?_ ?_
              · have : (0 : Int) ≤ ((A / p : Nat) : Int) * (L : Int) := by rw [← Int.natCast_mul]; omega
                omega
              · rw [← Int.natCast_mul, HD.out]; omega)
            clear hg hg1
            go_wp2_with fail
            go_roundw
            case rel => exact ⟨k + 1, by omega, by go_num, by rw [HDW.out, HMW.out, HST.out], hx⟩
            case measure => simp [intOf]; omega
          · have hq1 : 1 ≤ q := by omega
            have hz' : ((q : Int) == 0) = false := by simp; omega
            have hz2 : ((q : Int) != 0) = true := by simp; omega
            have hz3 : decide (0 < (q : Int)) = true := by simp; omega
            have HG := hid_ (show Nat.gcd q (p % q) = Nat.gcd A L from by rw [← hg.out, Nat.gcd_comm p q, Nat.gcd_rec q p, Nat.gcd_comm])
            clear hg hp1
            go_wp2_with fail
            go_region
            all_goals
              go_wp2_with fail
              go_roundw
              case rel => exact ⟨q, p % q, by omega, by have := Nat.mod_lt p hq1; omega, rfl, by go_num, HG, hid_ hq1, hid_ hx.out.drew⟩
              case measure => simp [intOf]; have := Nat.mod_lt p hq1; omega
      · obtain rfl : k = (cycsK n f n).length := by omega
        have HPE := hid_ (show (lensP n f).take (cycsK n f n).length = lensP n f from by rw [List.take_of_length_le]; unfold lensP; simp)
        rw [HPE.out]
        go_wp2_with fail
        go_ret2
        rw [HP.out]
        exact ⟨rfl, HX1.out.trans hx.out⟩
  · have HP := hid_ (show ordS l = (0, e) from by unfold ordS; rw [he, if_pos h0])
    have HCS := hid_ (show cycS l = ([], e) from by unfold cycS; rw [he, if_pos h0])
    have hb : (e != 0) = true := by simpa using h0
    clear h0 he hl
    go_enter Tryz.func17, Tryz.ntmps17
    go_wp2_with fail
    refine HCY.out.mono ?_
    rintro e w1 ⟨⟨cv, he, hcv⟩, hx1⟩
    rw [HCS.out] at he hcv
    subst he
    have HX1 := hid_ hx1
    clear hcv hx1 HCY HCS
    go_wp2_with fail
    go_ret2
    rw [HP.out]
    exact ⟨rfl, HX1.out⟩
end Go.Proofs.YtgfdhclpffakfaaGreat
