/- Walk of the law PeelUnions. -/
import Derived.Test.YtpphaicbdeeacaaPeelV
namespace Go.Proofs.Ytpphaicbdeeacaa
set_option linter.unusedVariables false
set_option linter.unusedSimpArgs false
open Go.RowKit

theorem lft_in_int {N : Nat} {f : Nat → Bool} {x : Int} (h : x ∈ lft N f) : ∃ j : Nat, x = j ∧ j < N ∧ f j = true := by
  obtain ⟨a, b⟩ := lft_mem h
  obtain ⟨X, rfl⟩ : ∃ X : Nat, x = X := ⟨x.toNat, by omega⟩
  exact ⟨X, rfl, mem_lft.1 h⟩

theorem box3_facts (w : World) (a b c : Value) (t : TypeId) : (w.alloc (.cells #[a, b, c] t)).cell? ⟨w.heap.size, 0, none⟩ = some a ∧ (w.alloc (.cells #[a, b, c] t)).cell? ⟨w.heap.size, 1, none⟩ = some b ∧ (w.alloc (.cells #[a, b, c] t)).cell? ⟨w.heap.size, 2, none⟩ = some c ∧ Ex w (w.alloc (.cells #[a, b, c] t)) := ⟨by simp, by simp, by simp, (Ex.refl _).alloc _⟩

/-- What the loop over the variables keeps: the union, and a set that holds it. -/
def MoreOK (k : Nat) (g : Nat → Bool) (M : List Int) : Prop := M.Pairwise (· < ·) ∧ (∀ x ∈ M, 0 ≤ x ∧ x < k) ∧ ∀ j : Nat, j < k → g j = true → (j : Int) ∈ M
theorem MoreOK.zero (g : Nat → Bool) : MoreOK 0 g [] := ⟨.nil, fun x hx => by (cases hx), fun j hj => by omega⟩
theorem MoreOK.put {k : Nat} {g : Nat → Bool} {M : List Int} (h : MoreOK k g M) : MoreOK (k + 1) g (M ++ [(k : Int)]) := by
  refine ⟨List.pairwise_append.2 ⟨h.1, List.pairwise_singleton _ _, fun a ha c hc => ?_⟩, fun x hx => ?_, fun j hj hg => ?_⟩
  · simp at hc; have := h.2.1 a ha; omega
  · rw [List.mem_append] at hx
    rcases hx with hx | hx
    · have := h.2.1 x hx; omega
    · simp at hx; omega
  · rw [List.mem_append]
    by_cases e : j = k
    · subst e; right; simp
    · left; exact h.2.2 j (by omega) hg
theorem MoreOK.skip {k : Nat} {g : Nat → Bool} {M : List Int} (h : MoreOK k g M) (hg : g k = false) : MoreOK (k + 1) g M := by
  refine ⟨h.1, fun x hx => by have := h.2.1 x hx; omega, fun j hj hgj => ?_⟩
  by_cases e : j = k
  · subst e; rw [hg] at hgj; cases hgj
  · exact h.2.2 j (by omega) hgj

set_option maxRecDepth 100000 in
set_option maxHeartbeats 8000000 in
theorem PeelUnions_any (w : World) (V : Int) (v : Value) (rows : List (List Int)) (b0 b1 b2 : Int) (hv : MSl w v rows) (hb0 : (Lit.int .u32 b0).wf = true) (hb1 : (Lit.int .u32 b1).wf = true) (hb2 : (Lit.int .u32 b2).wf = true) :
    Calls Try.prog 8 #[.agg #[.int .i64 V, v], .agg #[.int .u32 b0, .int .u32 b1, .int .u32 b2]] w fun r w' => r = .returned (.bool true) ∧ Ex w w' := by
  have hr0 : 0 ≤ b0 ∧ b0 ≤ 4294967295 := by
    simp [Lit.wf, IntKind.min, IntKind.max, IntKind.signed, IntKind.bits] at hb0; omega
  have hr1 : 0 ≤ b1 ∧ b1 ≤ 4294967295 := by
    simp [Lit.wf, IntKind.min, IntKind.max, IntKind.signed, IntKind.bits] at hb1; omega
  have hr2 : 0 ≤ b2 ∧ b2 ≤ 4294967295 := by
    simp [Lit.wf, IntKind.min, IntKind.max, IntKind.signed, IntKind.bits] at hb2; omega
  obtain ⟨r00, r01⟩ := hr0
  obtain ⟨r10, r11⟩ := hr1
  obtain ⟨r20, r21⟩ := hr2
  obtain ⟨d0, d1, e0⟩ := boxT_facts w V v
  have hs0 : (w.alloc (.cells #[.int .i64 V, v] 31)).heap.size = w.heap.size + 1 := by simp
  have HV := hid_ hv
  obtain ⟨za, zc, rfl, _, _, _⟩ := hv.open
  obtain ⟨xb, hxb⟩ : ∃ xb, w.heap.size = xb := ⟨_, rfl⟩
  rw [hxb] at d0 d1 hs0
  clear hv hb0 hb1 hb2
  go_enter Try.func8, Try.ntmps8
  go_wp2_with fail
  try simp only [hxb]
  clear hxb
  generalize w.alloc (.cells #[.int .i64 V, .slice za rows.length zc] 31) = wA at *
  obtain ⟨f0, f1, f2, e1⟩ := box3_facts wA (.int .u32 b0) (.int .u32 b1) (.int .u32 b2) 58
  rw [hs0] at f0 f1 f2
  have d0 := e1.cell d0
  have d1 := e1.cell d1
  have EX := hid_ (e0.trans e1)
  generalize wA.alloc (.cells #[.int .u32 b0, .int .u32 b1, .int .u32 b2] 58) = w0 at *
  clear e0 e1 hs0
  refine (awake_any w0).mono ?_
  rintro e w1 ⟨rfl, hx1⟩
  have d0 := hx1.cell d0
  have d1 := hx1.cell d1
  have f0 := hx1.cell f0
  have f1 := hx1.cell f1
  have f2 := hx1.cell f2
  have EX := hid_ (EX.out.trans hx1)
  clear hx1
  go_wp2_with fail
  refine (FewT_any w1 V rows _ (HV.out.ex EX.out)).mono ?_
  rintro e w2 ⟨bb, rfl, hx2⟩
  have d0 := hx2.cell d0
  have d1 := hx2.cell d1
  have f0 := hx2.cell f0
  have f1 := hx2.cell f1
  have f2 := hx2.cell f2
  have EX := hid_ (EX.out.trans hx2)
  clear hx2
  cases bb with
  | false =>
    go_wp2_with (go_at_call 12; refine (awake_any _).mono ?_; rintro e w3 ⟨rfl, hx3⟩)
    go_ret
    exact ⟨rfl, EX.out.trans hx3⟩
  | true =>
    go_wp2_with fail
    refine (rChkT_any w2 V rows _ (HV.out.ex EX.out)).mono ?_
    rintro e w3 ⟨rfl, hx3⟩
    have d0 := hx3.cell d0
    have d1 := hx3.cell d1
    have f0 := hx3.cell f0
    have f1 := hx3.cell f1
    have f2 := hx3.cell f2
    have EX := hid_ (EX.out.trans hx3)
    clear hx3
    by_cases hk : pchkS V rows = 0
    · have HK := hid_ hk
      obtain ⟨N, rfl, hN1, hN2, _, _, _⟩ := pchkS_ok hk
      rw [hk]
      clear hk
      by_cases h16 : (20 : Int) < (N : Int)
      · go_wp2_with (go_at_call 12; refine (awake_any _).mono ?_; rintro e w4 ⟨rfl, hx4⟩)
        go_ret
        exact ⟨rfl, EX.out.trans hx4⟩
      · have h16' : N ≤ 20 := by omega
        have dd : decide ((20 : Int) < (N : Int)) = false := by simp; omega
        have HSP := hid_ (fun w' b h1 h2 => split_any w' b N hN2 h1 h2)
        have HGR := hid_ (fun w' l lv (h0 : Ex w w') h1 => Greatest_any w' N rows _ (HV.out.ex h0) l lv h1)
        clear h16
        go_wp2_with fail
        go_region_held3 (fun w' => w'.cell? ⟨xb, 0, none⟩ = some (.int .i64 N) ∧ w'.cell? ⟨xb, 1, none⟩ = some (.slice za rows.length zc) ∧ w'.cell? ⟨xb + 1, 0, none⟩ = some (.int .u32 b0))
          (first | exact ⟨d0, d1, f0⟩ | exact ⟨hx4.cell d0, hx4.cell d1, hx4.cell f0⟩ | exact ⟨hx5.cell (hx4.cell d0), hx5.cell (hx4.cell d1), hx5.cell (hx4.cell f0)⟩)
          ((first
            | (go_at_call 35; refine (HSP.out _ b0 r00 r01).mono ?_; rintro e w4 ⟨sv, SA, rfl, hsa, hra, hx4⟩)
            | (go_at_call 24; refine (HGR.out _ SA _ ((EX.out.drew).trans hx4) hsa).mono ?_; rintro e w5 ⟨av, A, rfl, hga, hia, hx5⟩)))
        have d0 := hx5.cell (hx4.cell (show w3.drew.cell? ⟨xb, 0, none⟩ = some (.int .i64 N) from d0))
        have d1 := hx5.cell (hx4.cell (show w3.drew.cell? ⟨xb, 1, none⟩ = some (.slice za rows.length zc) from d1))
        have f1 := hx5.cell (hx4.cell (show w3.drew.cell? ⟨xb + 1, 1, none⟩ = some (.int .u32 b1) from f1))
        have f2 := hx5.cell (hx4.cell (show w3.drew.cell? ⟨xb + 1, 2, none⟩ = some (.int .u32 b2) from f2))
        have EX := hid_ ((EX.out.drew.trans hx4).trans hx5)
        have HRA := hid_ hra
        have HGA := hid_ hga
        have HIA := hid_ hia
        have hse := (stop_3 HK.out hra).2
        rw [hse]
        clear hsa hra hga hia hx4 hx5 hse f0
        go_wp2_with fail
        go_region_held3 (fun w' => w'.cell? ⟨xb, 0, none⟩ = some (.int .i64 N) ∧ w'.cell? ⟨xb, 1, none⟩ = some (.slice za rows.length zc) ∧ w'.cell? ⟨xb + 1, 1, none⟩ = some (.int .u32 b1))
          (first | exact ⟨d0, d1, f1⟩ | exact ⟨hx4.cell d0, hx4.cell d1, hx4.cell f1⟩ | exact ⟨hx6.cell (hx4.cell d0), hx6.cell (hx4.cell d1), hx6.cell (hx4.cell f1)⟩)
          ((first
            | (go_at_call 35; refine (HSP.out _ b1 r10 r11).mono ?_; rintro e w6 ⟨sv, SB, rfl, hsb, hrb, hx4⟩)
            | (go_at_call 24; refine (HGR.out _ SB _ ((EX.out.drew).trans hx4) hsb).mono ?_; rintro e w7 ⟨bv_, B, rfl, hgb, hib, hx6⟩)))
        have d0 := hx6.cell (hx4.cell (show w5.drew.cell? ⟨xb, 0, none⟩ = some (.int .i64 N) from d0))
        have d1 := hx6.cell (hx4.cell (show w5.drew.cell? ⟨xb, 1, none⟩ = some (.slice za rows.length zc) from d1))
        have f2 := hx6.cell (hx4.cell (show w5.drew.cell? ⟨xb + 1, 2, none⟩ = some (.int .u32 b2) from f2))
        have HIA := hid_ (HIA.out.ex (((Ex.refl w5).drew.trans hx4).trans hx6))
        have EX := hid_ ((EX.out.drew.trans hx4).trans hx6)
        have HRB := hid_ hrb
        have HGB := hid_ hgb
        have HIB := hid_ hib
        have hse := (stop_3 HK.out hrb).2
        rw [hse]
        obtain ⟨aa, ac, rfl, _, _, _⟩ := HIA.out.open
        obtain ⟨ba, bc, rfl, _, _, _⟩ := HIB.out.open
        clear hsb hrb hgb hib hx4 hx6 hse f1
        go_wp2_with fail
        obtain ⟨G, hG⟩ : ∃ G : Nat → Bool, (fun j : Nat => A.contains (j : Int) || B.contains (j : Int)) = G := ⟨_, rfl⟩
        have HGJ := hid_ (show ∀ j : Nat, G j = (A.contains (j : Int) || B.contains (j : Int)) from fun j => by rw [← hG])
        have HUN := hid_ (fun M C h1 h2 h3 => unions (M := M) (C := C) HK.out HRA.out HRB.out HGA.out HGB.out h1 h2 h3)
        rw [hG] at HUN
        have EX7 : Ex w7 w7 := Ex.refl _
        clear hG
        go_loopw [9, 10, 64] (fun o1 o2 i' wr => ∃ (k : Nat) (M : List Int), k ≤ N ∧ i' = .int .i64 k ∧ Hid (wr.ownsRow w7.heap.size 3 1 o1 (lft k G).length (ints (lft k G))) ∧ Hid (wr.ownsRow w7.heap.size 3 1 o2 M.length (ints M)) ∧ Hid (Aprt o1 o2) ∧ M.length ≤ k ∧ Hid (MoreOK k G M) ∧ Ex w7 wr) (fun _ _ i' _ => N - (intOf i').toNat)
        case atStart => exact ⟨0, [], by omega, rfl, hid_ (World.ownsRow_nil _ _ _ _), hid_ (World.ownsRow_nil _ _ _ _), hid_ (Aprt.nil _), by simp, hid_ (MoreOK.zero G), EX7⟩
        case round =>
          clear EX7
          obtain ⟨k, M, hk, rfl, ho1, ho2, hap, hML, hmo, hx⟩ := hrel
          have hl1 := lft_len k G
          have f2 := hx.cell f2
          by_cases hlt : k < N
          · have HMA := hid_ (fun w' (h : Ex w7 w') => member_any w' A _ (k : Int) (HIA.out.ex h))
            have HMB := hid_ (fun w' (h : Ex w7 w') => member_any w' B _ (k : Int) (HIB.out.ex h))
            have hgk := HGJ.out k
            obtain ⟨ca, hca⟩ : ∃ ca, A.contains (k : Int) = ca := ⟨_, rfl⟩
            obtain ⟨cb, hcb⟩ : ∃ cb, B.contains (k : Int) = cb := ⟨_, rfl⟩
            rw [hca, hcb] at hgk
            rw [hca] at HMA
            rw [hcb] at HMB
            have HLS := hid_ (lft_snoc k G)
            have HS := hid_ hx.size
            have HX := hid_ hx
            have HMP := hid_ hmo.out.put
            cases ca with
            | true =>
              rw [Bool.true_or] at hgk
              have HLK := hid_ (show lft (k + 1) G = lft k G ++ [(k : Int)] by rw [HLS.out, if_pos hgk])
              clear hx hmo HGJ HLS
              generalize lft k G = LK at *
              go_wp2_with (first | (go_at_call 36; ((with_reducible refine (HMA.out _ HX.out).mono ?_); rintro e w' ⟨rfl, rfl⟩)) | (go_at_call 36; ((with_reducible refine (HMB.out _ HX.out).mono ?_); rintro e w' ⟨rfl, rfl⟩)) | (at_builtin; refine wpList_append1 _ rfl _ _ 22 rfl w7.heap.size 3 (.int .i64 0) 1 8 Try.underlying22 infoInt rfl (by decide) _ LK.length _ rfl ho1.out [.int .i64 k] 3 _ rfl (by simp) rfl (by simp [Value.oneCell']) (by unfold maxLen; omega) (by omega) HS.out ?_))
              intro v8 w8 happ
              have hr2 := happ.row ho2.out hap.out.symm
              have HO1 := hid_ happ.own
              have HO2 := hid_ hr2.1
              have HAP2 := hid_ hr2.2
              have HX8 := hid_ (happ.ex HX.out (Nat.le_refl _))
              have HS8 := hid_ HX8.out.size
              clear happ hr2 ho1 ho2 hap
              go_wp2_with (first | (go_at_call 36; ((with_reducible refine (HMA.out _ HX8.out).mono ?_); rintro e w' ⟨rfl, rfl⟩)) | (go_at_call 36; ((with_reducible refine (HMB.out _ HX8.out).mono ?_); rintro e w' ⟨rfl, rfl⟩)) | (at_builtin; refine wpList_append1 _ rfl _ _ 22 rfl w7.heap.size 3 (.int .i64 0) 1 8 Try.underlying22 infoInt rfl (by decide) _ M.length _ rfl HO2.out [.int .i64 k] 3 _ rfl (by simp) rfl (by simp [Value.oneCell']) (by unfold maxLen; omega) (by omega) HS8.out ?_))
              intro v9 w9 happ
              have hr1 := happ.row HO1.out HAP2.out.symm
              have HN1 := hid_ hr1.1
              have HN2 := hid_ happ.own
              have HNA := hid_ hr1.2
              have HX9 := hid_ (happ.ex HX8.out (Nat.le_refl _))
              clear happ hr1 HO1 HO2 HAP2
              go_wp2_with fail
              go_roundw
              case rel => exact ⟨k + 1, M ++ [(k : Int)], by omega, by go_num, hid_ (by rw [HLK.out, List.length_append]; have := HN1.out; simpa [ints] using this), hid_ (by rw [List.length_append]; have := HN2.out; simpa [ints] using this), HNA, by rw [List.length_append, List.length_singleton]; omega, HMP, HX9.out⟩
              case measure => simp [intOf]; omega
            | false =>
              cases cb with
              | true =>
                rw [Bool.or_true] at hgk
                have HLK := hid_ (show lft (k + 1) G = lft k G ++ [(k : Int)] by rw [HLS.out, if_pos hgk])
                clear hx hmo HGJ HLS
                generalize lft k G = LK at *
                go_wp2_with (first | (go_at_call 36; ((with_reducible refine (HMA.out _ HX.out).mono ?_); rintro e w' ⟨rfl, rfl⟩)) | (go_at_call 36; ((with_reducible refine (HMB.out _ HX.out).mono ?_); rintro e w' ⟨rfl, rfl⟩)) | (at_builtin; refine wpList_append1 _ rfl _ _ 22 rfl w7.heap.size 3 (.int .i64 0) 1 8 Try.underlying22 infoInt rfl (by decide) _ LK.length _ rfl ho1.out [.int .i64 k] 3 _ rfl (by simp) rfl (by simp [Value.oneCell']) (by unfold maxLen; omega) (by omega) HS.out ?_))
                intro v8 w8 happ
                have hr2 := happ.row ho2.out hap.out.symm
                have HO1 := hid_ happ.own
                have HO2 := hid_ hr2.1
                have HAP2 := hid_ hr2.2
                have HX8 := hid_ (happ.ex HX.out (Nat.le_refl _))
                have HS8 := hid_ HX8.out.size
                clear happ hr2 ho1 ho2 hap
                go_wp2_with (first | (go_at_call 36; ((with_reducible refine (HMA.out _ HX8.out).mono ?_); rintro e w' ⟨rfl, rfl⟩)) | (go_at_call 36; ((with_reducible refine (HMB.out _ HX8.out).mono ?_); rintro e w' ⟨rfl, rfl⟩)) | (at_builtin; refine wpList_append1 _ rfl _ _ 22 rfl w7.heap.size 3 (.int .i64 0) 1 8 Try.underlying22 infoInt rfl (by decide) _ M.length _ rfl HO2.out [.int .i64 k] 3 _ rfl (by simp) rfl (by simp [Value.oneCell']) (by unfold maxLen; omega) (by omega) HS8.out ?_))
                intro v9 w9 happ
                have hr1 := happ.row HO1.out HAP2.out.symm
                have HN1 := hid_ hr1.1
                have HN2 := hid_ happ.own
                have HNA := hid_ hr1.2
                have HX9 := hid_ (happ.ex HX8.out (Nat.le_refl _))
                clear happ hr1 HO1 HO2 HAP2
                go_wp2_with fail
                go_roundw
                case rel => exact ⟨k + 1, M ++ [(k : Int)], by omega, by go_num, hid_ (by rw [HLK.out, List.length_append]; have := HN1.out; simpa [ints] using this), hid_ (by rw [List.length_append]; have := HN2.out; simpa [ints] using this), HNA, by rw [List.length_append, List.length_singleton]; omega, HMP, HX9.out⟩
                case measure => simp [intOf]; omega
              | false =>
                rw [Bool.or_false] at hgk
                have HLK := hid_ (show lft (k + 1) G = lft k G by rw [HLS.out, if_neg (by rw [hgk]; simp)]; simp)
                have HMS := hid_ (hmo.out.skip hgk)
                clear hx hmo HGJ HLS hgk
                generalize lft k G = LK at *
                go_wp2_with (first | (go_at_call 36; ((with_reducible refine (HMA.out _ HX.out).mono ?_); rintro e w' ⟨rfl, rfl⟩)) | (go_at_call 36; ((with_reducible refine (HMB.out _ HX.out).mono ?_); rintro e w' ⟨rfl, rfl⟩)) | (at_builtin; refine wpList_append1 _ rfl _ _ 22 rfl w7.heap.size 3 (.int .i64 0) 1 8 Try.underlying22 infoInt rfl (by decide) _ M.length _ rfl ho2.out [.int .i64 k] 3 _ rfl (by simp) rfl (by simp [Value.oneCell']) (by unfold maxLen; omega) (by omega) HS.out ?_))
                · intro v9 w9 happ
                  have hr1 := happ.row ho1.out hap.out
                  have HN1 := hid_ hr1.1
                  have HN2 := hid_ happ.own
                  have HNA := hid_ hr1.2
                  have HX9 := hid_ (happ.ex HX.out (Nat.le_refl _))
                  clear happ hr1 ho1 ho2 hap
                  go_wp2_with fail
                  go_roundw
                  case rel => exact ⟨k + 1, M ++ [(k : Int)], by omega, by go_num, hid_ (by rw [HLK.out]; exact HN1.out), hid_ (by rw [List.length_append]; have := HN2.out; simpa [ints] using this), HNA, by rw [List.length_append, List.length_singleton]; omega, HMP, HX9.out⟩
                  case measure => simp [intOf]; omega
                · go_roundw
                  case rel => exact ⟨k + 1, M, by omega, by go_num, hid_ (by rw [HLK.out]; exact ho1.out), ho2, hap, by omega, HMS, HX.out⟩
                  case measure => simp [intOf]; omega
          · obtain rfl : N = k := by omega
            have hrm : risB N M = true := risB_of hmo.out.1 fun x hx => by have := hmo.out.2.1 x hx; omega
            have HI1 := hid_ (show ISl wr _ (lft N G) from Sl.own ho1.out)
            have HI2 := hid_ (show ISl wr _ M from Sl.own ho2.out)
            have HU2 := hid_ (fun C h3 => HUN.out M C hrm (fun j hj h => hmo.out.2.2 j hj (by rw [HGJ.out]; exact h)) h3)
            have EXW := hid_ (EX.out.trans hx)
            have d0 := hx.cell d0
            have d1 := hx.cell d1
            have HST := hid_ (Stopping_any wr N rows _ (HV.out.ex EXW.out) (lft N G) _ HI1.out)
            have HGR2 := hid_ (fun w' (h : Ex wr w') => Greatest_any w' N rows _ (HV.out.ex (EXW.out.trans h)) M _ (HI2.out.ex h))
            obtain ⟨oa, oc, ho⟩ := own_shape ho1.out
            subst ho
            obtain ⟨pa, pc, hp⟩ := own_shape ho2.out
            subst hp
            clear f2 ho1 ho2 hap hmo hrm HSP HGR
            generalize hSB : stopB N rows (lft N G) = sb at *
            generalize hSE : setsE N rows (lft N G) = se at *
            generalize hME : setsE N rows M = me at *
            go_wp2_with fail
            refine HST.out.mono ?_
            rintro e w8 ⟨rfl, hx8⟩
            have e0 := hx8.cell d0
            have e1 := hx8.cell d1
            go_wp2_with fail
            refine (HGR2.out _ hx8).mono ?_
            rintro e w9 ⟨cv, C, rfl, hgc, hic, hx9⟩
            obtain ⟨k1, k2, k3, k4, k5, k6, k7, k8⟩ := HU2.out C hgc
            have HST2 := hid_ (Stopping_any w9 N rows _ (HV.out.ex ((EXW.out.trans hx8).trans hx9)) C _ hic)
            rw [k6, k7] at HST2
            have K8 := hid_ k8
            have HIC := hid_ hic
            have HI1 := hid_ ((HI1.out.ex hx8).ex hx9)
            have EXW := hid_ ((EXW.out.trans hx8).trans hx9)
            have d0 := hx9.cell e0
            have d1 := hx9.cell e1
            obtain ⟨ca, cc, rfl, _, _, _⟩ := hic.open
            rw [k3] at hSE
            rw [k4] at hSB
            rw [k5] at hME
            subst k3 k4 k5
            clear hSB hSE hME k1 k2 k6 k7 k8 hgc hic HU2 HUN hx8 hx9 e0 e1
            go_wp2_with fail
            refine HST2.out.mono ?_
            rintro e w10 ⟨rfl, hx10⟩
            have EXW := hid_ (EXW.out.trans hx10)
            have HI1 := hid_ (HI1.out.ex hx10)
            have HIC := hid_ (HIC.out.ex hx10)
            clear hx10 d0 d1
            obtain ⟨LG, hLG⟩ : ∃ LG, lft N G = LG := ⟨_, rfl⟩
            rw [hLG] at HI1 K8
            obtain ⟨oa2, oc2, ho2, q1, q2, q3⟩ := HI1.out.open
            unfold maxLen at q2
            injection ho2 with e1 e2 e3
            subst e1 e3
            have Q3 := hid_ q3
            try simp only [hLG]
            clear q3 hLG e2
            go_wp2_with fail
            go_loopw [138] (fun i' wr => ∃ i : Nat, i ≤ LG.length ∧ i' = .int .i64 i ∧ wr = w10) (fun i' _ => LG.length - (intOf i').toNat)
            case atStart => exact ⟨0, by omega, rfl, rfl⟩
            case round =>
              obtain ⟨i, hi, rfl, rfl⟩ := hrel
              by_cases hil : i < LG.length
              · obtain ⟨x, hxx⟩ : ∃ x, LG[i]? = some x := ⟨_, List.getElem?_eq_getElem hil⟩
                obtain ⟨lb, lo, rfl, hlc⟩ := Q3.out (by omega)
                have c1 := hlc i x hxx
                have HMC := hid_ (member_any wr C _ x HIC.out)
                rw [K8.out x (List.mem_of_getElem? hxx)] at HMC
                clear hlc hxx
                go_wp2_with (go_at_call 36; refine HMC.out.mono ?_; rintro e w' ⟨rfl, rfl⟩)
                go_roundw
                case rel => exact ⟨i + 1, by omega, by go_num, by first | rfl | trivial⟩
                case measure => simp [intOf]; omega
              · obtain rfl : i = LG.length := by omega
                go_wp2_with fail
                go_ret
                exact ⟨rfl, EXW.out⟩
    · obtain ⟨z, hz⟩ : ∃ z, pchkS V rows = z := ⟨_, rfl⟩
      rw [hz] at hk ⊢
      have hzb : (z != 0) = true := by simpa using hk
      clear hk hz
      go_wp2_with (go_at_call 12; refine (awake_any _).mono ?_; rintro e w4 ⟨rfl, hx4⟩)
      go_ret
      exact ⟨rfl, EX.out.trans hx4⟩
end Go.Proofs.Ytpphaicbdeeacaa
