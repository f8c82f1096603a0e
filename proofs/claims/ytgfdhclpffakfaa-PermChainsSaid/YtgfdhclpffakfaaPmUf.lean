/- The walks of PermBuild, PermChains and PermSifts. -/
import Derived.Test.YtgfdhclpffakfaaPmBt
namespace Go.Proofs.Ytgfdhclpffakfaa
set_option linter.unusedVariables false
set_option linter.unusedSimpArgs false
open Go.RowKit

theorem same_yes {P : Prop} {r : Ending} (hp : P) (h : BoolR P r) : r = .returned (.bool true) := by
  obtain ⟨b, rfl, hb⟩ := h
  rw [hb.2 hp]

set_option maxRecDepth 100000 in
set_option maxHeartbeats 4000000 in
theorem PermBuild_any (w : World) (n : Int) (rows : List (List Int)) (v : Value) (hv : MSl w v rows) :
    Calls Try.prog 6 #[.int .i64 n, v] w fun r w' => r = .returned (.bool true) ∧ Ex w w' := by
  obtain ⟨a, cap, rfl, _, _, _⟩ := hv.open
  have HV := hid_ hv
  clear hv
  go_enter Try.func6, Try.ntmps6
  go_wp2_with fail
  refine (awake_any w).mono ?_
  rintro e w1 ⟨rfl, hx1⟩
  have EX := hid_ hx1
  clear hx1
  go_wp2_with fail
  refine (FewL_any w1 0 rows _ (HV.out.ex EX.out) 100 (by omega) (by omega)).mono ?_
  rintro e w2 ⟨⟨b, rfl, hb⟩, hx⟩
  have EX := hid_ (EX.out.trans hx)
  clear hx
  cases b with
  | false =>
    clear hb
    go_wp2_with fail
    refine (awake_any w2).mono ?_
    rintro e w3 ⟨rfl, hx⟩
    have EX := hid_ (EX.out.trans hx)
    clear hx
    go_wp2_with fail
    go_ret
    exact ⟨rfl, EX.out⟩
  | true =>
    have hl : rows.length ≤ 1000 := by have := hb rfl; omega
    clear hb
    by_cases hbad : 6 < n ∧ n ≤ 64
    · have b1 : decide (6 < n) = true := by simp; omega
      have b2 : decide (n ≤ 64) = true := by simp; omega
      clear hbad
      go_wp2_with fail
      refine (awake_any w2).mono ?_
      rintro e w3 ⟨rfl, hx⟩
      have EX := hid_ (EX.out.trans hx)
      clear hx
      go_wp2_with fail
      go_ret
      exact ⟨rfl, EX.out⟩
    · have hn6 : n ≤ 6 ∨ 64 < n := by omega
      have hcase : decide (6 < n) = false ∨ (decide (6 < n) = true ∧ decide (n ≤ 64) = false) := by
        rcases hn6 with h | h
        · exact .inl (decide_eq_false (by omega))
        · exact .inr ⟨decide_eq_true (by omega), decide_eq_false (by omega)⟩
      have HN6 := hid_ hn6
      obtain ⟨⟨⟨dd, K⟩, E⟩, hB⟩ : ∃ B, bldS n rows = B := ⟨_, rfl⟩
      have HB := hid_ hB
      clear hbad hn6 hB
      rcases hcase with b1 | ⟨b1, b2⟩
      all_goals
        go_wp2_with fail
        refine (Build_any w2 n rows _ (HV.out.ex EX.out) hl).mono ?_
        rintro e w3 ⟨⟨kv, he, hkv⟩, hx⟩
        rw [HB.out] at he hkv
        dsimp only at he hkv
        subst he
        obtain ⟨ka, kc, rfl, _, _, _⟩ := hkv.open3
        have HKV := hid_ hkv
        have EX := hid_ (EX.out.trans hx)
        clear hx hkv
        go_wp2_with fail
        obtain ⟨bk0, bk1, ebk⟩ := boxCh_facts w3 dd (.slice ka K.length kc)
        refine (rBuild_any _ n rows _ (HV.out.ex (EX.out.trans ebk)) hl HN6.out).mono ?_
        rintro e w4 ⟨⟨lv, he, hlv⟩, hx⟩
        rw [HB.out] at he hlv
        dsimp only at he hlv
        subst he
        obtain ⟨la, lc, rfl, _, _, _⟩ := hlv.open3
        obtain ⟨qk, hqk⟩ : ∃ qk, w3.heap.size = qk := ⟨_, rfl⟩
        rw [hqk] at bk0 bk1
        try simp only [hqk]
        obtain ⟨bl0, bl1, ebl⟩ := boxCh_facts w4 dd (.slice la K.length lc)
        have bk0 := ebl.cell (hx.cell bk0)
        have bk1 := ebl.cell (hx.cell bk1)
        have HKV := hid_ (HKV.out.ex (ebk.trans (hx.trans ebl)))
        have HLV := hid_ (hlv.ex ebl)
        have EX := hid_ (EX.out.trans (ebk.trans (hx.trans ebl)))
        have hee : (E == E) = true := by simp
        clear hx hlv ebk ebl hqk
        go_wp2_with fail
        refine (rSame2_any _ dd dd K K _ _ HKV.out HLV.out).mono ?_
        rintro e w5 ⟨hb, hx⟩
        obtain rfl := same_yes ⟨rfl, rfl⟩ hb
        have EX := hid_ (EX.out.trans hx)
        clear hx hb
        go_wp2_with fail
        go_ret
        exact ⟨rfl, EX.out⟩

theorem nsl_len {w : World} {v : Value} {x : Nat} (h : NSl w v x) : ∃ a n c, v = .slice a n c ∧ n ≤ 9223372036854775807 := by
  obtain ⟨n, f, _, _, h3⟩ := h
  obtain ⟨a, c, rfl, h4, h5, _⟩ := h3.open
  unfold maxLen at h5
  exact ⟨a, n, c, rfl, by omega⟩

set_option maxRecDepth 100000 in
set_option maxHeartbeats 4000000 in
theorem PermChains_any (w : World) (d : Int) (L : List Lv) (lv : Value) (hL : LSl w lv L) :
    Calls Try.prog 7 #[.agg #[.int .i64 d, lv]] w fun r w' => r = .returned (.bool true) ∧ Ex w w' := by
  obtain ⟨d0, d1, e0⟩ := boxCh_facts w d lv
  have HV := hid_ (hL.ex e0)
  obtain ⟨za, zc, rfl, _, _, _⟩ := hL.open3
  clear hL
  go_enter Try.func7, Try.ntmps7
  go_wp2_with fail
  obtain ⟨q, hq⟩ : ∃ q, w.heap.size = q := ⟨_, rfl⟩
  rw [hq] at d0 d1
  try simp only [hq]
  clear hq
  generalize w.alloc (.cells #[.int .i64 d, .slice za L.length zc] 46) = w0 at *
  have HE0 := hid_ e0
  have D0 := hid_ d0
  have D1 := hid_ d1
  clear e0 d0 d1
  refine (awake_any w0).mono ?_
  rintro e w1 ⟨rfl, hx1⟩
  have EX := hid_ hx1
  have d0 := hx1.cell D0.out
  have d1 := hx1.cell D1.out
  clear hx1
  go_wp2_with fail
  refine (rFew2_any w1 d L _ (HV.out.ex EX.out)).mono ?_
  rintro e w2 ⟨⟨b, rfl, hb⟩, hx⟩
  have EX := hid_ (EX.out.trans hx)
  clear hx
  cases b with
  | false =>
    clear hb
    go_wp2_with fail
    refine (awake_any w2).mono ?_
    rintro e w3 ⟨rfl, hx⟩
    have EX := hid_ (EX.out.trans hx)
    clear hx
    go_wp2_with fail
    go_ret
    exact ⟨rfl, HE0.out.trans EX.out⟩
  | true =>
    have HHB := hid_ (hb rfl)
    have HGL := hid_ (show (gensL L).length ≤ 1000 from Nat.le_trans HHB.out.2 (by omega))
    have d0 := EX.out.cell D0.out
    have d1 := EX.out.cell D1.out
    obtain ⟨E, hE⟩ : ∃ E, chkS d L = E := ⟨_, rfl⟩
    have HE := hid_ hE
    clear hb hE
    go_wp2_with fail
    refine (rCheckChain_any w2 d L _ (HV.out.ex EX.out) HGL.out HHB.out.1).mono ?_
    rintro e w3 ⟨rfl, hx⟩
    rw [HE.out]
    have EX := hid_ (EX.out.trans hx)
    have d0 := EX.out.cell D0.out
    have d1 := EX.out.cell D1.out
    clear hx
    go_wp2_with fail
    refine (Size_any w3 d L _ (HV.out.ex EX.out) HGL.out).mono ?_
    rintro e w4 ⟨hs, hx⟩
    have EX := hid_ (EX.out.trans hx)
    have d0 := EX.out.cell D0.out
    have d1 := EX.out.cell D1.out
    clear hx
    have hne : (E != E) = false := by simp
    rcases hs with ⟨h0, he⟩ | ⟨h0, v, he, hv⟩
    · rw [HE.out] at h0 he
      subst he
      have hb : (E != 0) = true := by simpa using h0
      have hb2 : (E == 0) = false := by simpa using h0
      clear h0
      go_wp2_with fail
      refine (CheckChain_any w4 d L _ (HV.out.ex EX.out) HGL.out).mono ?_
      rintro e w5 ⟨rfl, hx⟩
      rw [HE.out]
      have EX := hid_ (EX.out.trans hx)
      clear hx
      go_wp2_with fail
      go_ret
      exact ⟨rfl, HE0.out.trans EX.out⟩
    · rw [HE.out] at h0
      subst h0
      subst he
      obtain ⟨va, vn, vc, rfl, hvn⟩ := nsl_len hv
      have HN := hid_ hv
      obtain ⟨n, rfl, hn1, hn2, S, hS, hgl, hLS⟩ := chkS_ok HE.out
      have HOL := hid_ (show ∀ l ∈ L, l.orb.length ≤ 64 from fun l hl => by have := lev_orb_le (hLS ▸ hl) ; omega)
      have HLL := hid_ (show L.length ≤ 64 from by
        rw [hLS, List.length_map]
        unfold ptsK
        have := List.length_filter_le (fun b => decide (1 < (orbM S b n).length)) (List.range n)
        rw [List.length_range] at this
        omega)
      have HSM := hid_ (show SmallN (sizL L) from by
        have := sizL_small HOL.out L.length HLL.out
        rwa [List.take_length] at this)
      clear hv hS hgl hLS
      go_wp2_with fail
      refine (CheckChain_any w4 n L _ (HV.out.ex EX.out) HGL.out).mono ?_
      rintro e w5 ⟨rfl, hx⟩
      rw [HE.out]
      have EX := hid_ (EX.out.trans hx)
      have HN := hid_ (HN.out.ex hx)
      have d0 := EX.out.cell D0.out
      have d1 := EX.out.cell D1.out
      clear hx
      go_wp2_with fail
      refine (rSize_any w5 n L _ (HV.out.ex EX.out) HOL.out HLL.out).mono ?_
      rintro e w6 ⟨⟨v, rfl, hv⟩, hx⟩
      obtain ⟨ua, un, uc, rfl, _⟩ := nsl_len hv
      have HM := hid_ hv
      have HN := hid_ (HN.out.ex hx)
      have EX := hid_ (EX.out.trans hx)
      clear hx hv
      go_wp2_with fail
      refine (rSame_any w6 _ _ _ _ HN.out HM.out HSM.out HSM.out).mono ?_
      rintro e w7 ⟨rfl, nn, hx⟩
      have EX := hid_ (EX.out.trans (show Ex w6 w7 from by rw [hx]; exact (Ex.refl w6).drewN nn))
      clear hx
      rw [decide_eq_true rfl]
      go_wp2_with fail
      go_ret
      exact ⟨rfl, HE0.out.trans EX.out⟩

set_option maxRecDepth 100000 in
set_option maxHeartbeats 4000000 in
theorem PermSifts_any (w : World) (d : Int) (L : List Lv) (lv : Value) (hL : LSl w lv L) (p : List Int) (pv : Value) (hp : ISl w pv p) :
    Calls Try.prog 8 #[.agg #[.int .i64 d, lv], pv] w fun r w' => r = .returned (.bool true) ∧ Ex w w' := by
  obtain ⟨d0, d1, e0⟩ := boxCh_facts w d lv
  have HV := hid_ (hL.ex e0)
  have HP := hid_ (hp.ex e0)
  obtain ⟨za, zc, rfl, _, _, _⟩ := hL.open3
  obtain ⟨pa, pc, rfl, _, p2, _⟩ := hp.open
  unfold maxLen at p2
  clear hL hp
  go_enter Try.func8, Try.ntmps8
  go_wp2_with fail
  obtain ⟨q, hq⟩ : ∃ q, w.heap.size = q := ⟨_, rfl⟩
  rw [hq] at d0 d1
  try simp only [hq]
  clear hq
  generalize w.alloc (.cells #[.int .i64 d, .slice za L.length zc] 46) = w0 at *
  have HE0 := hid_ e0
  have D0 := hid_ d0
  have D1 := hid_ d1
  clear e0 d0 d1
  refine (awake_any w0).mono ?_
  rintro e w1 ⟨rfl, hx1⟩
  have EX := hid_ hx1
  have d0 := hx1.cell D0.out
  have d1 := hx1.cell D1.out
  clear hx1
  go_wp2_with fail
  refine (rFew2_any w1 d L _ (HV.out.ex EX.out)).mono ?_
  rintro e w2 ⟨⟨b, rfl, hb⟩, hx⟩
  have EX := hid_ (EX.out.trans hx)
  clear hx
  cases b with
  | false =>
    clear hb
    go_wp2_with fail
    refine (awake_any w2).mono ?_
    rintro e w3 ⟨rfl, hx⟩
    have EX := hid_ (EX.out.trans hx)
    clear hx
    go_wp2_with fail
    go_ret
    exact ⟨rfl, HE0.out.trans EX.out⟩
  | true =>
    have HHB := hid_ (hb rfl)
    clear hb
    by_cases hp100 : 100 < (p.length : Int)
    · have b1 : decide (100 < (p.length : Int)) = true := by simpa using hp100
      clear hp100
      go_wp2_with fail
      refine (awake_any w2).mono ?_
      rintro e w3 ⟨rfl, hx⟩
      have EX := hid_ (EX.out.trans hx)
      clear hx
      go_wp2_with fail
      go_ret
      exact ⟨rfl, HE0.out.trans EX.out⟩
    · have b1 : decide (100 < (p.length : Int)) = false := by simpa using hp100
      have HGL := hid_ (show (gensL L).length ≤ 1000 from Nat.le_trans HHB.out.2 (by omega))
      have d0 := EX.out.cell D0.out
      have d1 := EX.out.cell D1.out
      obtain ⟨E, hE⟩ : ∃ E, chkS d L = E := ⟨_, rfl⟩
      obtain ⟨F, hF⟩ : ∃ F, pchk p = F := ⟨_, rfl⟩
      obtain ⟨W, hW⟩ : ∃ W, sftE d L p = W := ⟨_, rfl⟩
      have HHF0 := hid_ (show W ≠ 0 → hasB d L p = false from fun h => by unfold hasB; rw [hW]; exact decide_eq_false fun k => h k.1)
      have HSE0 := hid_ (show W ≠ 0 → sftS d L p = ([], 0, W) from fun h => by unfold sftS; rw [hW, if_pos h])
      have hWD : W = if E ≠ 0 then E else if F ≠ 0 then F else if (p.length : Int) ≠ d then 10 else 0 := by rw [← hW, ← hE, ← hF]; rfl
      have HWE := hid_ hW
      have HE := hid_ hE
      have HF := hid_ hF
      clear hE hF hW hp100
      go_wp2_with fail
      refine (rCheckChain_any w2 d L _ (HV.out.ex EX.out) HGL.out HHB.out.1).mono ?_
      rintro e w3 ⟨rfl, hx⟩
      rw [HE.out]
      have EX := hid_ (EX.out.trans hx)
      have d0 := EX.out.cell D0.out
      have d1 := EX.out.cell D1.out
      clear hx
      by_cases h0 : E = 0
      · subst h0
        rw [if_neg (by decide)] at hWD
        go_wp2_with fail
        refine (rCheck_any w3 p _ (HP.out.ex EX.out)).mono ?_
        rintro e w4 ⟨rfl, n4, hx⟩
        rw [HF.out]
        have EX := hid_ (EX.out.trans (show Ex w3 w4 from by rw [hx]; exact (Ex.refl w3).drewN n4))
        have d0 := EX.out.cell D0.out
        have d1 := EX.out.cell D1.out
        clear hx
        by_cases h1 : F = 0
        · subst h1
          rw [if_neg (by decide)] at hWD
          by_cases h2 : (p.length : Int) = d
          · rw [if_neg (by simpa using h2)] at hWD
            subst hWD
            have b2 : ((p.length : Int) != d) = false := by simpa using h2
            subst h2
            have HE3 := HE.out
            obtain ⟨n, hnd, hn1, hn2, S, hS, hgl, hLS⟩ := chkS_ok HE3
            obtain ⟨n', f, _, _, hpl, hfP, hpe⟩ := pchk_ok HF.out
            have hnn : n' = n := by omega
            subst hnn
            subst hpe
            have hpt : ((gensL L).map fnL) = S := by rw [hgl]; exact map_fnL hS
            have hfn : fnL (li n' f) = f := fnL_li hfP
            have hlen : (li n' f).length = n' := li_len _ _
            obtain ⟨g, hg⟩ : ∃ g, (sftA n' S (ptsK n' S) f 0).1 = g := ⟨_, rfl⟩
            obtain ⟨k, hk⟩ : ∃ k, (sftA n' S (ptsK n' S) f 0).2 = k := ⟨_, rfl⟩
            have HSE := hid_ (show sftS ((li n' f).length : Int) L (li n' f) = (li n' g, k, 0) from by
              unfold sftS
              rw [HWE.out, if_neg (by decide), hlen]
              show (li n' (sftA n' ((gensL L).map fnL) (ptsK n' ((gensL L).map fnL)) (fnL (li n' f)) 0).1, (sftA n' ((gensL L).map fnL) (ptsK n' ((gensL L).map fnL)) (fnL (li n' f)) 0).2, 0) = _
              rw [hpt, hfn, hg, hk])
            have HHB2 := hid_ (show hasB ((li n' f).length : Int) L (li n' f) = decide (k = L.length ∧ li n' g = li n' idP) from by
              unfold hasB
              rw [HSE.out, HWE.out, hlen]
              apply decide_eq_decide.2
              exact ⟨fun h => h.2, fun h => ⟨rfl, h⟩⟩)
            have hrs := fun (w' : World) (h1 : LSl w' (.slice za L.length zc) L) (h2 : ISl w' (.slice pa (li n' f).length pc) (li n' f)) => rSift_any w' n' S L hLS hS hn1 hn2 _ h1 f hfP _ h2
            have hrh := fun (w' : World) (h1 : LSl w' (.slice za L.length zc) L) (h2 : ISl w' (.slice pa (li n' f).length pc) (li n' f)) => rHas_any w' n' S L hLS hS hn1 hn2 _ h1 f hfP _ h2
            rw [hg, hk] at hrs hrh
            rw [hlen] at hrs hrh HP HWE HSE HHB2 d0 D0
            rw [hlen]
            have HRS := hid_ hrs
            have HRH := hid_ hrh
            have hk64 : k ≤ 64 := by
              have h1 := sftA_le n' S (ptsK n' S) f 0
              rw [hk] at h1
              have h2 := List.length_filter_le (fun b => decide (1 < (orbM S b n').length)) (List.range n')
              rw [List.length_range] at h2
              unfold ptsK at h1
              omega
            have hf0 : ((n' : Int) != (n' : Int)) = false := by simp
            have hk1 : ((k : Int) == (k : Int)) = true := by simp
            have hk2 : (k == k) = true := by simp
            clear hrs hrh hg hk hS hgl hLS hpl hfP hpt hfn hlen HE3 HHF0 HSE0 b2 hnd
            go_wp2_with fail
            refine (Sift_any w4 n' L _ (HV.out.ex EX.out) HGL.out (li n' f) _ (HP.out.ex EX.out)).mono ?_
            rintro e w6 ⟨⟨v, he, hv⟩, hx⟩
            rw [HSE.out] at he hv
            dsimp only at he hv
            subst he
            obtain ⟨va, vc, rfl, _, _, _⟩ := isl_li hv
            have HA := hid_ hv
            have EX := hid_ (EX.out.trans hx)
            have d0 := EX.out.cell D0.out
            have d1 := EX.out.cell D1.out
            clear hx hv
            go_wp2_with fail
            refine (Has_any w6 n' L _ (HV.out.ex EX.out) HGL.out (li n' f) _ (HP.out.ex EX.out)).mono ?_
            rintro e w7 ⟨rfl, hx⟩
            rw [HHB2.out, HWE.out]
            have EX := hid_ (EX.out.trans hx)
            have HA := hid_ (HA.out.ex hx)
            have d0 := EX.out.cell D0.out
            have d1 := EX.out.cell D1.out
            obtain ⟨bb, hbb⟩ : ∃ bb, decide (k = L.length ∧ li n' g = li n' idP) = bb := ⟨_, rfl⟩
            rw [hbb] at HRH ⊢
            clear hx hbb
            go_wp2_with fail
            refine (HRS.out w7 (HV.out.ex EX.out) (HP.out.ex EX.out)).mono ?_
            rintro e w8 ⟨⟨v, rfl, hv⟩, hx⟩
            obtain ⟨ua, uc, rfl, _, _, _⟩ := isl_li hv
            have HB := hid_ hv
            have EX := hid_ (EX.out.trans hx)
            have HA := hid_ (HA.out.ex hx)
            have d0 := EX.out.cell D0.out
            have d1 := EX.out.cell D1.out
            clear hx hv
            go_wp2_with fail
            refine (SameInts_any w8 _ _ _ _ HA.out HB.out).mono ?_
            rintro e w9 ⟨rfl, n9, hx⟩
            have EX := hid_ (EX.out.trans (show Ex w8 w9 from by rw [hx]; exact (Ex.refl w8).drewN n9))
            have d0 := EX.out.cell D0.out
            have d1 := EX.out.cell D1.out
            rw [decide_eq_true rfl]
            clear hx
            go_wp2_with fail
            refine (HRH.out w9 (HV.out.ex EX.out) (HP.out.ex EX.out)).mono ?_
            rintro e w10 ⟨rfl, hx⟩
            have EX := hid_ (EX.out.trans hx)
            have hbe : (bb == bb) = true := by simp
            clear hx
            go_wp2_with fail
            go_ret
            exact ⟨rfl, HE0.out.trans EX.out⟩
          · rw [if_pos h2] at hWD
            have hw0 : W ≠ 0 := fun h => absurd (hWD.symm.trans h) (by decide)
            have HSE := hid_ (show sftS d L p = ([], 0, W) from HSE0.out hw0)
            have HHF := hid_ (show hasB d L p = false from HHF0.out hw0)
            clear hw0
            subst hWD
            have b2 : ((p.length : Int) != d) = true := by simpa using h2
            clear h2
            go_wp2_with fail
            refine (Sift_any w4 d L _ (HV.out.ex EX.out) HGL.out p _ (HP.out.ex EX.out)).mono ?_
            rintro e w6 ⟨⟨v, he, hv⟩, hx⟩
            rw [HSE.out] at he hv
            dsimp only at he hv
            subst he
            obtain ⟨va, vc, rfl, _, _, _⟩ := hv.open
            have EX := hid_ (EX.out.trans hx)
            have d0 := EX.out.cell D0.out
            have d1 := EX.out.cell D1.out
            clear hx hv
            go_wp2_with fail
            refine (Has_any w6 d L _ (HV.out.ex EX.out) HGL.out p _ (HP.out.ex EX.out)).mono ?_
            rintro e w7 ⟨rfl, hx⟩
            rw [HHF.out, HWE.out]
            have EX := hid_ (EX.out.trans hx)
            clear hx
            go_wp2_with fail
            go_ret
            exact ⟨rfl, HE0.out.trans EX.out⟩
        · rw [if_pos h1] at hWD
          have HSE := hid_ (HSE0.out (by rw [hWD]; exact h1))
          have HHF := hid_ (HHF0.out (by rw [hWD]; exact h1))
          subst hWD
          have b2 : (W == 0) = false := by simpa using h1
          have b3 : (W != 0) = true := by simpa using h1
          have b4 : (W != W) = false := by simp
          clear h1
          go_wp2_with fail
          refine (Sift_any w4 d L _ (HV.out.ex EX.out) HGL.out p _ (HP.out.ex EX.out)).mono ?_
          rintro e w6 ⟨⟨v, he, hv⟩, hx⟩
          rw [HSE.out] at he hv
          dsimp only at he hv
          subst he
          obtain ⟨va, vc, rfl, _, _, _⟩ := hv.open
          have EX := hid_ (EX.out.trans hx)
          have d0 := EX.out.cell D0.out
          have d1 := EX.out.cell D1.out
          clear hx hv
          go_wp2_with fail
          refine (Has_any w6 d L _ (HV.out.ex EX.out) HGL.out p _ (HP.out.ex EX.out)).mono ?_
          rintro e w7 ⟨rfl, hx⟩
          rw [HHF.out, HWE.out]
          have EX := hid_ (EX.out.trans hx)
          clear hx
          go_wp2_with fail
          go_ret
          exact ⟨rfl, HE0.out.trans EX.out⟩
      · rw [if_pos h0] at hWD
        have HSE := hid_ (HSE0.out (by rw [hWD]; exact h0))
        have HHF := hid_ (HHF0.out (by rw [hWD]; exact h0))
        subst hWD
        have b2 : (W == 0) = false := by simpa using h0
        have b3 : (W != 0) = true := by simpa using h0
        have b4 : (W != W) = false := by simp
        clear h0
        go_wp2_with fail
        refine (Sift_any w3 d L _ (HV.out.ex EX.out) HGL.out p _ (HP.out.ex EX.out)).mono ?_
        rintro e w6 ⟨⟨v, he, hv⟩, hx⟩
        rw [HSE.out] at he hv
        dsimp only at he hv
        subst he
        obtain ⟨va, vc, rfl, _, _, _⟩ := hv.open
        have EX := hid_ (EX.out.trans hx)
        have d0 := EX.out.cell D0.out
        have d1 := EX.out.cell D1.out
        clear hx hv
        go_wp2_with fail
        refine (Has_any w6 d L _ (HV.out.ex EX.out) HGL.out p _ (HP.out.ex EX.out)).mono ?_
        rintro e w7 ⟨rfl, hx⟩
        rw [HHF.out, HWE.out]
        have EX := hid_ (EX.out.trans hx)
        clear hx
        go_wp2_with fail
        go_ret
        exact ⟨rfl, HE0.out.trans EX.out⟩
end Go.Proofs.Ytgfdhclpffakfaa
