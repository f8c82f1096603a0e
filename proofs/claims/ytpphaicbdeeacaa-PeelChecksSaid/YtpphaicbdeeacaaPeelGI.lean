/- Walk of the law PeelChecks. -/
import Derived.Test.YtpphaicbdeeacaaPeelGC
import Derived.Test.YtpphaicbdeeacaaPeelGH
namespace Go.Proofs.Ytpphaicbdeeacaa
set_option linter.unusedVariables false
set_option linter.unusedSimpArgs false
open Go.RowKit

set_option maxRecDepth 100000 in
set_option maxHeartbeats 8000000 in
theorem PeelChecks_any (w : World) (V : Int) (v : Value) (rows : List (List Int)) (lv : Value) (l : List Int) (hv : MSl w v rows) (hl : ISl w lv l) :
    Calls Try.prog 4 #[.agg #[.int .i64 V, v], lv] w fun r w' => r = .returned (.bool true) ∧ Ex w w' := by
  obtain ⟨d0, d1, e0⟩ := boxT_facts w V v
  have HV := hid_ hv
  have HL := hid_ hl
  obtain ⟨za, zc, rfl, _, z2, _⟩ := hv.open
  obtain ⟨la, lc, rfl, _, _, _⟩ := hl.open
  obtain ⟨xb, hxb⟩ : ∃ xb, w.heap.size = xb := ⟨_, rfl⟩
  rw [hxb] at d0 d1
  clear hv hl
  go_enter Try.func4, Try.ntmps4
  go_wp2_with fail
  try simp only [hxb]
  clear hxb
  generalize w.alloc (.cells #[.int .i64 V, .slice za rows.length zc] 31) = w0 at *
  have EX := hid_ e0
  clear e0
  refine (awake_any w0).mono ?_
  rintro e w1 ⟨rfl, hx1⟩
  have d0 := hx1.cell d0
  have d1 := hx1.cell d1
  have EX := hid_ (EX.out.trans hx1)
  clear hx1
  go_wp2_with fail
  refine (FewT_any w1 V rows _ (HV.out.ex EX.out)).mono ?_
  rintro e w2 ⟨bb, rfl, hx2⟩
  have d0 := hx2.cell d0
  have d1 := hx2.cell d1
  have EX := hid_ (EX.out.trans hx2)
  clear hx2
  cases bb with
  | false =>
    go_wp2_with (go_at_call 12; refine (awake_any _).mono ?_; rintro e w3 ⟨rfl, hx3⟩)
    go_ret
    exact ⟨rfl, EX.out.trans hx3⟩
  | true =>
    by_cases hl0 : 100 < (l.length : Int)
    · go_wp2_with (go_at_call 12; refine (awake_any _).mono ?_; rintro e w3 ⟨rfl, hx3⟩)
      go_ret
      exact ⟨rfl, EX.out.trans hx3⟩
    · have hl0' : (l.length : Int) ≤ 100 := by omega
      have dd0 : decide (100 < (l.length : Int)) = false := by simp; omega
      clear hl0
      obtain ⟨pc, hpc⟩ : ∃ pc, pchkS V rows = pc := ⟨_, rfl⟩
      obtain ⟨se, hse⟩ : ∃ se, setsE V rows l = se := ⟨_, rfl⟩
      obtain ⟨sb, hsb⟩ : ∃ sb, stopB V rows l = sb := ⟨_, rfl⟩
      obtain ⟨me, hme⟩ : ∃ me, smallE V rows = me := ⟨_, rfl⟩
      obtain ⟨ml, hml⟩ : ∃ ml, smallL V rows = ml := ⟨_, rfl⟩
      have H1 := hid_ (fun w' (h : Ex w w') => Girth_any w' V rows _ (HV.out.ex h))
      have H2 := hid_ (fun w' (h : Ex w w') => rGirth_any w' V _ rows (HV.out.ex h))
      have H3 := hid_ (fun w' (h : Ex w w') => Stopping_any w' V rows _ (HV.out.ex h) l _ (HL.out.ex h))
      have H4 := hid_ (fun w' (h : Ex w w') => rStopping_any w' V _ _ rows l (HV.out.ex h) (HL.out.ex h))
      have H5 := hid_ (fun w' (h : Ex w w') => pCheck_any w' V rows _ (HV.out.ex h))
      have H6 := hid_ (fun w' (h : Ex w w') => rChkT_any w' V rows _ (HV.out.ex h))
      have H7 := hid_ (fun w' (h : Ex w w') => Greatest_any w' V rows _ (HV.out.ex h) l _ (HL.out.ex h))
      have H8 := hid_ (fun w' (h : Ex w w') => rGreatest_any w' V _ _ rows l (HV.out.ex h) (HL.out.ex h))
      have H9 := hid_ (fun w' (h : Ex w w') => Smallest_any w' V rows _ (HV.out.ex h))
      have H0 := hid_ (fun w' (h : Ex w w') => rSmallest_any w' V _ rows (HV.out.ex h))
      rw [hpc] at H1 H2 H5 H6
      rw [hse] at H3 H4 H7 H8
      rw [hsb] at H3 H4
      rw [hme] at H9 H0
      simp only [hml] at H9 H0
      clear hpc hse hsb hme hml
      go_wp2_with fail
      refine (H1.out w2 EX.out).mono ?_
      rintro e w3 ⟨n, rfl, hg, hx3⟩
      have d0 := hx3.cell d0
      have d1 := hx3.cell d1
      have EX := hid_ (EX.out.trans hx3)
      clear hx3
      go_wp2_with fail
      refine (H2.out w3 EX.out).mono ?_
      rintro e w4 ⟨m, rfl, hg2, hx4⟩
      obtain rfl := hg2 n hg
      have d0 := hx4.cell d0
      have d1 := hx4.cell d1
      have EX := hid_ (EX.out.trans hx4)
      clear hx4 hg hg2
      go_wp2_with fail
      refine (H3.out w4 EX.out).mono ?_
      rintro e w5 ⟨rfl, hx5⟩
      have d0 := hx5.cell d0
      have d1 := hx5.cell d1
      have EX := hid_ (EX.out.trans hx5)
      clear hx5
      go_wp2_with fail
      refine (H4.out w5 EX.out).mono ?_
      rintro e w6 ⟨rfl, hx6⟩
      have d0 := hx6.cell d0
      have d1 := hx6.cell d1
      have EX := hid_ (EX.out.trans hx6)
      have D0 := hid_ d0
      have D1 := hid_ d1
      have b1 : (pc != pc) = false := by simp
      have b2 : (n != n) = false := by simp
      have b3 : (se != se) = false := by simp
      have b4 : (sb != sb) = false := by simp
      clear hx6
      go_upto_region 7 with fail
      have E0 : Ex w6 w6.drew := (Ex.refl w6).drew
      have G0 : Ex w w6.drew := EX.out.trans E0
      go_region_held3 (fun w' => w'.cell? ⟨xb, 0, none⟩ = some (.int .i64 V) ∧ w'.cell? ⟨xb, 1, none⟩ = some (.slice za rows.length zc))
        (first | with_reducible exact ⟨E0.cell D0.out, E0.cell D1.out⟩ | with_reducible exact ⟨E1.cell D0.out, E1.cell D1.out⟩ | with_reducible exact ⟨E2.cell D0.out, E2.cell D1.out⟩)
        ((first
          | (go_at_call 22; (with_reducible refine (H5.out _ G0).mono ?_); rintro e wx1 ⟨rfl, hy1⟩; have E1 := E0.trans hy1; have G1 := G0.trans hy1)
          | (go_at_call 23; (with_reducible refine (H6.out _ G1).mono ?_); rintro e wx2 ⟨rfl, hy2⟩; have E2 := E1.trans hy2; have G2 := G1.trans hy2)))
      have d0 := E2.cell D0.out
      have d1 := E2.cell D1.out
      have EX := hid_ G2
      clear E0 E1 E2 G0 G1 G2 hy1 hy2 D0 D1
      go_wp2_with fail
      refine (H7.out wx2 EX.out).mono ?_
      rintro e w8 ⟨u8, L8, rfl, hg8, hu8, hx8⟩
      have d0 := hx8.cell d0
      have d1 := hx8.cell d1
      have EX := hid_ (EX.out.trans hx8)
      obtain ⟨ua8, uc8, rfl, _, _, _⟩ := hu8.open
      have HG8 := hid_ hg8
      have HU8 := hid_ hu8
      clear hx8 hg8 hu8
      go_wp2_with fail
      refine (H8.out w8 EX.out).mono ?_
      rintro e w9 ⟨u9, L9, rfl, hg9, hu9, hx9⟩
      obtain rfl := HG8.out.unique hg9
      have d0 := hx9.cell d0
      have d1 := hx9.cell d1
      have EX := hid_ (EX.out.trans hx9)
      obtain ⟨ua9, uc9, rfl, _, _, _⟩ := hu9.open
      have HU8 := hid_ (HU8.out.ex hx9)
      have HU9 := hid_ hu9
      clear hx9 hg9 hu9 HG8
      go_wp2_with fail
      refine (H9.out w9 EX.out).mono ?_
      rintro e w10 ⟨u10_, rfl, hu10, hx10⟩
      have d0 := hx10.cell d0
      have d1 := hx10.cell d1
      have EX := hid_ (EX.out.trans hx10)
      obtain ⟨ua10, uc10, rfl, _, _, _⟩ := hu10.open
      have HU8 := hid_ (HU8.out.ex hx10)
      have HU9 := hid_ (HU9.out.ex hx10)
      have HU10 := hid_ hu10
      clear hx10 hu10
      go_wp2_with fail
      refine (H0.out w10 EX.out).mono ?_
      rintro e w11 ⟨u11_, rfl, hu11, hx11⟩
      have EX := hid_ (EX.out.trans hx11)
      obtain ⟨ua11, uc11, rfl, _, _, _⟩ := hu11.open
      have HS1 := hid_ (SameInts_any w11 L8 L8 _ _ (HU8.out.ex hx11) (HU9.out.ex hx11))
      have HS2 := hid_ (fun k => SameInts_any (w11.drewN k) ml ml _ _ ((HU10.out.ex hx11).ex ((Ex.refl w11).drewN k)) (hu11.ex ((Ex.refl w11).drewN k)))
      rw [show decide (L8 = L8) = true by simp] at HS1
      simp only [show decide (ml = ml) = true by simp] at HS2
      have bb1 : (se == se) = true := by simp
      have bb2 : (me == me) = true := by simp
      obtain ⟨xl, hxl⟩ : ∃ xl, L8.length = xl := ⟨_, rfl⟩
      obtain ⟨ll, hll⟩ : ∃ ll, ml.length = ll := ⟨_, rfl⟩
      rw [hxl] at HS1
      simp only [hll] at HS2
      rw [hxl, hll]
      clear hxl hll hx11 hu11 HU8 HU9 HU10 H0 H1 H2 H3 H4 H5 H6 H7 H8 H9 d0 d1
      go_wp2_with (go_at_call 28; first | (with_reducible refine HS1.out.mono ?_; rintro e w12 ⟨rfl, n, rfl⟩) | (with_reducible refine (HS2.out _).mono ?_; rintro e w13 ⟨rfl, k, rfl⟩))
      go_ret
      exact ⟨rfl, EX.out.drewN _⟩
end Go.Proofs.Ytpphaicbdeeacaa
