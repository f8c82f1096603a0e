/- Walks of perm.generators, perm.Compose and the reference's Compose. -/
import Derived.Test.YtgfdhclpffakfaaGreatZa11
namespace Go.Proofs.YtgfdhclpffakfaaGreat
set_option linter.unusedVariables false
set_option linter.unusedSimpArgs false
open Go.RowKit

theorem isl_nil (w : World) : ISl w (.slice none 0 0) [] := Sl.nil w 1
theorem isl_len0 {w : World} {v : Value} (h : ISl w v []) : ∃ a c, v = .slice a 0 c := by
  obtain ⟨a, c, rfl, _⟩ := h.open; exact ⟨a, c, rfl⟩
/-- The element values of a slice of slices. -/
theorem MSl.vals {w : World} {v : Value} {rows : List (List Int)} (h : MSl w v rows) : ∃ us : List Value, Sl w v rows.length 1 us ∧ us.length = rows.length ∧ ∀ (i : Nat) (r : List Int) (u : Value), rows[i]? = some r → us[i]? = some u → ISl w u r := by
  obtain ⟨vals, h1, h2⟩ := h
  exact ⟨vals, h1, by have := h1.1; omega, h2⟩
set_option maxRecDepth 100000 in
set_option maxHeartbeats 1000000 in
theorem gens1_any (w : World) (B : Nat) (n : Int) (a : Option Addr) (l cap : Nat) (c0 : w.cell? ⟨B, 0, none⟩ = some (.int .i64 n)) :
    Calls Tryz.prog 66 #[.slice a l cap, .pointer (some ⟨B, 0, none⟩)] w fun r w' => r = .returned (.bool ((l : Int) != n)) ∧ ∃ q, w' = w.drewN q := by
  go_enter Tryz.func66, Tryz.ntmps66
  go_wp2_with fail
  go_ret
  exact ⟨rfl, 0, rfl⟩
set_option maxRecDepth 100000 in
set_option maxHeartbeats 2000000 in
theorem generators_any (w : World) (n : Int) (rows : List (List Int)) (v : Value) (hv : MSl w v rows) :
    Calls Tryz.prog 44 #[.int .i64 n, v] w fun r w' => r = .returned (.int .i64 (gchk n rows)) ∧ Ex w w' := by
  have HV := hid_ hv
  obtain ⟨a, cap, rfl, s1, s2, s3⟩ := hv.open
  unfold maxLen at s2
  have e0 : Ex w (w.alloc (.cells #[.int .i64 n] 3)) := (Ex.refl _).alloc _
  have c0 : (w.alloc (.cells #[.int .i64 n] 3)).cell? ⟨w.heap.size, 0, none⟩ = some (.int .i64 n) := by simp
  have S3 := hid_ (hv.ex e0).open
  clear s3 hv
  go_enter Tryz.func44, Tryz.ntmps44
  go_wp2_with fail
  generalize w.alloc (.cells #[.int .i64 n] 3) = w1 at *
  refine (degree_any w1 n).mono ?_
  rintro e w2 ⟨rfl, rfl⟩
  by_cases hd : n < 1 ∨ 64 < n
  · have hz : degS n = 4 := if_pos hd
    have HP := hid_ (show gchk n rows = 4 from if_pos hd)
    rw [hz]
    clear hd hz
    go_wp2_with fail
    go_ret
    exact ⟨ret_int HP.out.symm, e0⟩
  · have hz : degS n = 0 := if_neg hd
    have HG := hid_ (show gchk n rows = allS n rows from if_neg hd)
    rw [hz]
    have E0 := hid_ e0
    have C0 := hid_ c0
    clear hd hz e0 c0
    go_wp2_with fail
    go_loopw [16] (fun k' wr => ∃ (k : Nat), k ≤ rows.length ∧ k' = .int .i64 k ∧ Hid (∀ (i : Nat) (r : List Int), i < k → rows[i]? = some r → pchk r = 0) ∧ Hid (Ex w1 wr)) (fun k' _ => rows.length - (intOf k').toNat)
    case atStart => exact ⟨0, by omega, rfl, hid_ (fun i x h => by omega), hid_ (Ex.refl _)⟩
    case round =>
      obtain ⟨k, hk, rfl, hall, hx⟩ := hrel
      by_cases hkn : k < rows.length
      · obtain ⟨b, o, rfl, hc⟩ : ∃ b o, a = some ⟨b, o, none⟩ ∧ ∀ (i : Nat) (r : List Int), rows[i]? = some r → ∃ u, w1.cell? ⟨b, o + i, none⟩ = some u ∧ ISl w1 u r := by
          obtain ⟨a', cap', e, _, _, h⟩ := S3.out
          injection e with e1 e2 e3
          subst e1
          exact h (by omega)
        obtain ⟨r, hrk⟩ : ∃ r, rows[k]? = some r := ⟨_, List.getElem?_eq_getElem hkn⟩
        obtain ⟨u, c1, hu⟩ := hc k r hrk
        have c1 := hx.out.cell c1
        have i1 : (0 : Int) ≤ (k : Int) := by omega
        have i2 : (k : Int) < (rows.length : Int) := by omega
        have HCH := hid_ (Check_any wr r u (hu.ex hx.out))
        obtain ⟨e, he⟩ : ∃ e, pchk r = e := ⟨_, rfl⟩
        rw [he] at HCH
        by_cases h0 : e = 0
        · have HA := hid_ (show ∀ (i : Nat) (s : List Int), i < k + 1 → rows[i]? = some s → pchk s = 0 from fun i s hi hs => by
            by_cases e2 : i = k
            · subst e2; rw [hrk] at hs; injection hs with hs; subst hs; rw [he, h0]
            · exact hall.out i s (by omega) hs)
          subst h0
          clear hc hrk hu he hall
          go_wp2_with (go_at_call 28; refine HCH.out.mono ?_; rintro e w' ⟨rfl, hx2⟩; have HX2 := hid_ (hx.out.trans hx2); clear hx2)
          go_roundw
          case rel => exact ⟨k + 1, by omega, by go_num, HA, HX2⟩
          case measure => simp [intOf]; omega
        · have hb : (e != 0) = true := by simpa using h0
          have HP := hid_ (show gchk n rows = e from by rw [HG.out, allS_hit hrk (by rw [he]; exact h0) (fun j s hj hs => hall.out j s hj hs)]; exact he)
          clear hc hrk hu he hall h0
          go_wp2_with (go_at_call 28; refine HCH.out.mono ?_; rintro e w' ⟨rfl, hx2⟩; have HX2 := hid_ (hx.out.trans hx2); clear hx2)
          go_ret
          exact ⟨ret_int HP.out.symm, E0.out.trans HX2.out⟩
      · obtain rfl : k = rows.length := by omega
        have HAM := hid_ (allS_miss (n := n) fun j s hs => hall.out j s (List.getElem?_eq_some_iff.1 hs).1 hs)
        have EX := hid_ (E0.out.trans hx.out)
        have c0 := hx.out.cell C0.out
        obtain ⟨us, hs1, hs2, hs3⟩ := (HV.out.ex EX.out).vals
        have HCF := hid_ (ContainsFunc_len wr (.pointer (some ⟨w.heap.size, 0, none⟩)) (.slice a rows.length cap) rows.length us hs1 (fun i => ((rows.getD i []).length : Int) != n) fun q i u hu => by
          have hi : i < rows.length := by have := (List.getElem?_eq_some_iff.1 hu).1; omega
          have hri : rows[i]? = some (rows[i]) := List.getElem?_eq_getElem hi
          have hd : rows.getD i [] = rows[i] := by rw [List.getD_eq_getElem?_getD, hri]; rfl
          rw [hd]
          obtain ⟨ua, uc, rfl, _⟩ := (hs3 i _ u hri hu).open
          exact gens1_any _ w.heap.size n ua _ uc (((Ex.refl wr).drewN q).cell c0))
        have HAN := hid_ (show ((List.range rows.length).any fun i => ((rows.getD i []).length : Int) != n) = decide (∃ r ∈ rows, (r.length : Int) ≠ n) from by
          rw [Bool.eq_iff_iff]
          simp only [List.any_eq_true, List.mem_range, decide_eq_true_eq, bne_iff_ne]
          constructor
          · rintro ⟨i, hi, h⟩
            rw [List.getD_eq_getElem?_getD, List.getElem?_eq_getElem hi] at h
            exact ⟨_, List.getElem_mem hi, h⟩
          · rintro ⟨x, hx, h⟩
            obtain ⟨i, hi, rfl⟩ := List.getElem_of_mem hx
            exact ⟨i, hi, by rw [List.getD_eq_getElem?_getD, List.getElem?_eq_getElem hi]; exact h⟩)
        rw [HAN.out] at HCF
        clear hall HAN hs1 hs2 hs3 c0 hx
        by_cases ho : ∃ r ∈ rows, (r.length : Int) ≠ n
        · have HP := hid_ (show gchk n rows = 10 from by rw [HG.out, HAM.out, if_pos ho])
          rw [decide_eq_true ho] at HCF
          clear ho
          go_wp2_with (go_at_call 65; refine HCF.out.mono ?_; rintro e w' ⟨rfl, q, rfl⟩)
          go_ret
          exact ⟨ret_int HP.out.symm, EX.out.drewN q⟩
        · have HP := hid_ (show gchk n rows = 0 from by rw [HG.out, HAM.out, if_neg ho])
          rw [decide_eq_false ho] at HCF
          clear ho
          go_wp2_with (go_at_call 65; refine HCF.out.mono ?_; rintro e w' ⟨rfl, q, rfl⟩)
          go_ret
          exact ⟨ret_int HP.out.symm, EX.out.drewN q⟩
/-- Composition of lists. -/
def thL (p q : List Int) : List Int := p.map fun x => q.getD x.toNat 0
def unL (n : Nat) : List Int := li n idP
theorem thL_li {n : Nat} {f g : Nat → Nat} (hf : ∀ i, i < n → f i < n) : thL (li n f) (li n g) = li n (thenP f g) := by
  apply List.ext_getElem?
  intro i
  unfold thL
  by_cases hi : i < n
  · rw [List.getElem?_map, li_get hi, li_get hi]
    show some ((li n g).getD (f i : Int).toNat 0) = _
    rw [Int.toNat_natCast, List.getD_eq_getElem?_getD, li_get (hf i hi)]; rfl
  · rw [List.getElem?_eq_none (by rw [List.length_map, li_len]; omega), List.getElem?_eq_none (by rw [li_len]; omega)]
def cmpS (rows : List (List Int)) : List Int × Int :=
  if rows = [] then ([], 11) else if allS (rows.getD 0 []).length rows ≠ 0 then ([], allS (rows.getD 0 []).length rows) else (rows.foldl thL (unL (rows.getD 0 []).length), 0)
/-- What Compose returns. -/
def CmpR (rows : List (List Int)) (r : Ending) (w' : World) : Prop := ∃ v, r = .returned (.tuple #[v, .int .i64 (cmpS rows).2]) ∧ ISl w' v (cmpS rows).1
theorem ret_ve {v : Value} {e e' : Int} (h : e = e') : Ending.returned (.tuple #[v, .int .i64 e]) = .returned (.tuple #[v, .int .i64 e']) := by rw [h]
theorem cmpR_of {rows : List (List Int)} {l : List Int} {e : Int} {v : Value} {w' : World} (h : cmpS rows = (l, e)) (hv : ISl w' v l) : CmpR rows (.returned (.tuple #[v, .int .i64 e])) w' := ⟨v, by rw [h], by rw [h]; exact hv⟩
theorem cmp_step {rows : List (List Int)} {n k : Nat} {f h : Nat → Nat} (hk : rows[k]? = some (li n h)) (hf : IsP n f) (e : (rows.take k).foldl thL (unL n) = li n f) : (rows.take (k + 1)).foldl thL (unL n) = li n (thenP f h) := by
  rw [List.take_add_one, hk, List.foldl_append, e]
  exact thL_li hf.lt
set_option maxRecDepth 100000 in
set_option maxHeartbeats 2000000 in
theorem Compose_any (w : World) (rows : List (List Int)) (v : Value) (hv : MSl w v rows) :
    Calls Tryz.prog 14 #[v] w fun r w' => CmpR rows r w' ∧ Ex w w' := by
  obtain ⟨a, cap, rfl, s1, s2, s3⟩ := hv.open
  unfold maxLen at s2
  have S3 := hid_ s3
  clear s3 hv
  by_cases hnil : rows = []
  · have HP := hid_ (show cmpS rows = ([], 11) from if_pos hnil)
    have hb : ((rows.length : Int) == 0) = true := by simp [hnil]
    have hb2 : (rows.length == 0) = true := by simp [hnil]
    clear hnil
    go_enter Tryz.func14, Tryz.ntmps14
    go_wp2_with fail
    go_ret2
    exact ⟨cmpR_of HP.out (isl_nil _), Ex.refl _⟩
  · have HN0 := hid_ hnil
    have hlen : 1 ≤ rows.length := by
      rcases rows with _ | ⟨r, rs⟩
      · exact absurd rfl hnil
      · simp
    have hb : ((rows.length : Int) == 0) = false := by simp; omega
    have hb2 : (rows.length == 0) = false := by simp; omega
    obtain ⟨b, o, rfl, hc⟩ := S3.out (by omega)
    have HC := hid_ hc
    clear hnil hc S3
    go_enter Tryz.func14, Tryz.ntmps14
    go_wp2_with fail
    go_loopw [15] (fun k' wr => ∃ (k : Nat), k ≤ rows.length ∧ k' = .int .i64 k ∧ Hid (∀ (i : Nat) (r : List Int), i < k → rows[i]? = some r → pchk r = 0) ∧ Hid (Ex w wr)) (fun k' _ => rows.length - (intOf k').toNat)
    case atStart => exact ⟨0, by omega, rfl, hid_ (fun i x h => by omega), hid_ (Ex.refl _)⟩
    case round =>
      obtain ⟨k, hk, rfl, hall, hx⟩ := hrel
      by_cases hkn : k < rows.length
      · obtain ⟨r, hrk⟩ : ∃ r, rows[k]? = some r := ⟨_, List.getElem?_eq_getElem hkn⟩
        obtain ⟨u, c1, hu⟩ := HC.out k r hrk
        have c1 := hx.out.cell c1
        have i1 : (0 : Int) ≤ (k : Int) := by omega
        have i2 : (k : Int) < (rows.length : Int) := by omega
        have HCH := hid_ (Check_any wr r u (hu.ex hx.out))
        obtain ⟨e, he⟩ : ∃ e, pchk r = e := ⟨_, rfl⟩
        rw [he] at HCH
        by_cases h0 : e = 0
        · have HA := hid_ (show ∀ (i : Nat) (s : List Int), i < k + 1 → rows[i]? = some s → pchk s = 0 from fun i s hi hs => by
            by_cases e2 : i = k
            · subst e2; rw [hrk] at hs; injection hs with hs; subst hs; rw [he, h0]
            · exact hall.out i s (by omega) hs)
          subst h0
          clear hrk hu he hall
          go_wp2_with (go_at_call 28; refine HCH.out.mono ?_; rintro e w' ⟨rfl, hx2⟩; have HX2 := hid_ (hx.out.trans hx2); clear hx2)
          go_roundw
          case rel => exact ⟨k + 1, by omega, by go_num, HA, HX2⟩
          case measure => simp [intOf]; omega
        · have hb : (e != 0) = true := by simpa using h0
          have HP := hid_ (show cmpS rows = ([], e) from by
            have := allS_hit (n := ((rows.getD 0 []).length : Int)) hrk (by rw [he]; exact h0) (fun j s hj hs => hall.out j s hj hs)
            rw [he] at this
            unfold cmpS
            rw [if_neg HN0.out, this, if_pos h0])
          clear hrk hu he hall h0
          go_wp2_with (go_at_call 28; refine HCH.out.mono ?_; rintro e w' ⟨rfl, hx2⟩; have HX2 := hid_ (hx.out.trans hx2); clear hx2)
          go_ret2
          exact ⟨cmpR_of HP.out (isl_nil _), HX2.out⟩
      · obtain rfl : k = rows.length := by omega
        have HOK := hid_ (show ∀ (i : Nat) (r : List Int), rows[i]? = some r → pchk r = 0 from fun i r hr => hall.out i r (List.getElem?_eq_some_iff.1 hr).1 hr)
        have HAM := hid_ (allS_miss (n := ((rows.getD 0 []).length : Int)) HOK.out)
        obtain ⟨r0, hr0⟩ : ∃ r, rows[0]? = some r := ⟨_, List.getElem?_eq_getElem (by omega)⟩
        obtain ⟨n, f0, hn1, hn2, hrl, _, _⟩ := pchk_ok (HOK.out 0 r0 hr0)
        have hd0 : rows.getD 0 [] = r0 := by rw [List.getD_eq_getElem?_getD, hr0]; rfl
        rw [hd0, hrl] at HAM
        have HD0 := hid_ (show (rows.getD 0 []).length = n from by rw [hd0, hrl])
        obtain ⟨u, c1, hu⟩ := HC.out 0 r0 hr0
        rw [Nat.add_zero] at c1
        have c1 := hx.out.cell c1
        obtain ⟨ua, uc, rfl, _, _, _⟩ := hu.open
        rw [hrl] at c1
        have HID := hid_ (identity_any wr n (by omega))
        clear hall hr0 hrl hd0 hu
        go_wp2_with (go_at_call 36; refine HID.out.mono ?_; rintro e w2 ⟨g, rfl, hown, hx2⟩; have HOW := hid_ hown.li; have HX2 := hid_ (hx.out.trans hx2); clear hown hx2)
        go_loopw [7, 32] (fun v' k' wr => ∃ (k : Nat) (f : Nat → Nat) (g : Nat), k ≤ rows.length ∧ k' = .int .i64 k ∧ v' = .slice (some ⟨g, 0, none⟩) n n ∧ Hid (∀ (i : Nat) (r : List Int), i < k → rows[i]? = some r → r.length = n) ∧ Hid (IsP n f) ∧ Hid ((rows.take k).foldl thL (unL n) = li n f) ∧ Hid (ISl wr (.slice (some ⟨g, 0, none⟩) n n) (li n f)) ∧ Hid (Ex w wr)) (fun _ k' _ => rows.length - (intOf k').toNat)
        case atStart => exact ⟨0, idP, g, by omega, rfl, rfl, hid_ (fun i x h => by omega), hid_ (isP_id n), hid_ (by simp [unL]), HOW, HX2⟩
        case round =>
          clear HOW HX2 c1
          obtain ⟨k, f, g, hk, rfl, rfl, hall, hf, hfo, hv, hx⟩ := hrel
          by_cases hkn : k < rows.length
          · obtain ⟨r, hrk⟩ : ∃ r, rows[k]? = some r := ⟨_, List.getElem?_eq_getElem hkn⟩
            obtain ⟨u, c1, hu⟩ := HC.out k r hrk
            have c1 := hx.out.cell c1
            have hu := hu.ex hx.out
            obtain ⟨ua, uc, rfl, _, _, _⟩ := hu.open
            have i1 : (0 : Int) ≤ (k : Int) := by omega
            have i2 : (k : Int) < (rows.length : Int) := by omega
            by_cases h0 : r.length = n
            · have HA := hid_ (show ∀ (i : Nat) (s : List Int), i < k + 1 → rows[i]? = some s → s.length = n from fun i s hi hs => by
                by_cases e2 : i = k
                · subst e2; rw [hrk] at hs; injection hs with hs; subst hs; exact h0
                · exact hall.out i s (by omega) hs)
              obtain ⟨n', h, _, _, hl', hh, rfl⟩ := pchk_ok (HOK.out k r hrk)
              obtain rfl : n = n' := by omega
              have HTH := hid_ (then_any wr n f h _ _ hv.out hu (by omega) hf.out.lt)
              have HFO := hid_ (cmp_step hrk hf.out hfo.out)
              have HFP := hid_ (hf.out.comp hh)
              rw [li_len] at c1 HTH
              have hbn : ((n : Int) != (n : Int)) = false := by simp
              clear hrk hu hall h0 hl' hfo hh hv
              go_wp2_with (go_at_call 35; refine HTH.out.mono ?_; rintro e w3 ⟨g3, rfl, hown, hx3⟩; have HOW := hid_ hown.li; have HX3 := hid_ (hx.out.trans hx3); clear hown hx3)
              go_roundw
              case rel => exact ⟨k + 1, _, g3, by omega, by go_num, rfl, HA, HFP, HFO, HOW, HX3⟩
              case measure => simp [intOf]; omega
            · have hb : ((r.length : Int) != (n : Int)) = true := by simp; omega
              have hb3 : (r.length != n) = true := by simpa using h0
              have HP := hid_ (show cmpS rows = ([], 10) from by
                have hA : allS n rows = 10 := by rw [HAM.out, if_pos ⟨r, List.mem_of_getElem? hrk, by omega⟩]
                unfold cmpS
                rw [if_neg HN0.out, HD0.out, hA, if_pos (by decide)])
              clear hrk hu hall h0 hfo hv hf
              go_wp2_with fail
              go_ret2
              exact ⟨cmpR_of HP.out (isl_nil _), hx.out⟩
          · obtain rfl : k = rows.length := by omega
            have HP := hid_ (show cmpS rows = (li n f, 0) from by
              have hA : allS n rows = 0 := by
                rw [HAM.out, if_neg]
                rintro ⟨r, hr, h⟩
                obtain ⟨i, hi, rfl⟩ := List.getElem_of_mem hr
                have := hall.out i _ hi (List.getElem?_eq_getElem hi)
                omega
              unfold cmpS
              rw [if_neg HN0.out, HD0.out, hA, if_neg (by decide), ← hfo.out, List.take_length])
            clear hall hf hfo
            go_wp2_with fail
            go_ret2
            exact ⟨cmpR_of HP.out hv.out, hx.out⟩
end Go.Proofs.YtgfdhclpffakfaaGreat
