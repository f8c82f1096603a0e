/- Walk of the echelon's reduce. -/
import Derived.Deep.CutRange
import Derived.Test.YtgdmlmhpineibaaGreatZb29
import Derived.Test.YtgdmlmhpineibaaGreatZb30
namespace Go.Proofs.YtgdmlmhpineibaaGreat
set_option linter.unusedVariables false
set_option linter.unusedSimpArgs false
open Go.RowKit

/-- An echelon in memory. -/
structure EchAt (w : World) (E b t : Nat) (e : EcS) (rv pv : Value) : Prop where
  c0 : w.cell? ⟨E, 0, none⟩ = some (.pointer (some ⟨b, 0, none⟩))
  c1 : w.cell? ⟨E, 1, none⟩ = some rv
  c2 : w.cell? ⟨E, 2, none⟩ = some pv
  rows : MSl w rv (rowsL t e.n e.a)
  plc : ISl w pv (il e.n fun i => (e.pl i : Int))
theorem EchAt.ex {w w' : World} {E b t : Nat} {e : EcS} {rv pv : Value} (h : EchAt w E b t e rv pv) (hx : Ex w w') : EchAt w' E b t e rv pv :=
  ⟨hx.cell h.c0, hx.cell h.c1, hx.cell h.c2, h.rows.ex hx, h.plc.ex hx⟩
theorem redC_zero (p m : Nat) (ml : List Int) (x : Int) (u r : Nat → Int) : redC p m ml x u r 0 = u := by funext j; unfold redC; rw [if_neg (by omega)]
theorem redC_succ (p m : Nat) (ml : List Int) (x : Int) (u r : Nat → Int) (c : Nat) : upd (redC p m ml x u r c) c (redJ p m ml x u r c) = redC p m ml x u r (c + 1) := by
  funext j
  by_cases e : j = c
  · subst e; rw [upd_same]; unfold redC; rw [if_pos (by omega)]
  · rw [upd_ne _ _ e]; unfold redC
    by_cases h : j < c
    · rw [if_pos h, if_pos (by omega)]
    · rw [if_neg h, if_neg (by omega)]
theorem redC_skip {p m : Nat} {ml : List Int} {x : Int} {u r : Nat → Int} {c : Nat} (h : r c = 0) : redC p m ml x u r (c + 1) = redC p m ml x u r c := by
  funext j; unfold redC
  by_cases e : j = c
  · subst e; rw [if_pos (by omega), if_neg (by omega)]; unfold redJ; rw [if_pos h]
  · by_cases h : j < c
    · rw [if_pos h, if_pos (by omega)]
    · rw [if_neg h, if_neg (by omega)]
theorem redC_all {p m : Nat} {ml : List Int} {x : Int} {u r : Nat → Int} {t j : Nat} (h : j < t) : redC p m ml x u r t j = redJ p m ml x u r j := by unfold redC; rw [if_pos h]
set_option maxRecDepth 100000 in
set_option maxHeartbeats 1000000 in
theorem red1_any (w : World) (x : Int) :
    Calls Tryz.prog 173 #[.int .i64 x] w fun r w' => r = .returned (.bool (x != 0)) ∧ Ex w w' := by
  go_enter Tryz.func173, Tryz.ntmps173
  go_wp2_with fail
  go_ret
  exact ⟨rfl, Ex.refl _⟩
section
variable {b p m x0 : Nat} {ml : List Int}
set_option maxRecDepth 100000 in
set_option maxHeartbeats 4000000 in
theorem reduce_any (w : World) (hg : GFat w b p m ml x0) (E t : Nat) (ht : t ≤ 1000) (e : EcS) (rv pv : Value) (hE : EchAt w E b t e rv pv) (hpl : ∀ i, i < e.n → e.pl i < t) (f : Nat → Int) (vv : Value) (hv : ISl w vv (il t f)) :
    Calls Tryz.prog 151 #[.pointer (some ⟨E, 0, none⟩), vv] w fun r w' => ∃ v', r = .returned (.tuple #[v', .int .i64 (lzI t (e.red p m ml f))]) ∧ ISl w' v' (il t (e.red p m ml f)) ∧ Ex w w' := by
  obtain ⟨n, a, pl⟩ := e
  simp only [EcS.red] at *
  obtain ⟨e0, e1, e2, hrows, hplc⟩ := hE
  simp only at e1 e2 hrows hplc hpl
  obtain ⟨ra, rc, rfl, r1, r2, r3⟩ := hrows.open
  obtain ⟨pa, pc, rfl, p1, p2, p3⟩ := hplc.open
  rw [rowsL_len] at r1 r3 e1
  rw [il_len] at p1 p3 e2
  unfold maxLen at r2 p2
  have R3 := hid_ r3
  have P3 := hid_ p3
  have E0 := hid_ e0
  have E1 := hid_ e1
  have E2 := hid_ e2
  have HPL := hid_ hpl
  have HG := hid_ hg
  by_cases ht0 : t = 0
  · subst ht0
    have hn0 : n = 0 := by
      by_cases h : n = 0
      · exact h
      · exact absurd (hpl 0 (by omega)) (by omega)
    subst hn0
    have HCL := hid_ (CloneE_any w (il 0 f) vv hv (by simp [il]))
    clear hv hg hrows hplc r3 p3 hpl
    have HX1 : redK p m ml a pl f 0 = f := rfl
    rw [HX1]
    go_enter Tryz.func151, Tryz.ntmps151
    go_wp2_with fail
    refine HCL.out.mono ?_
    rintro e w1 ⟨v1, rfl, hv1, -, hx1⟩
    have e1' := hx1.cell E1.out
    have HV1 := hid_ hv1
    have HX1 := hid_ hx1
    obtain ⟨va, vc, rfl, -, -, -⟩ := hv1.open
    clear hv1 hx1
    go_wp2_with fail
    go_loopw [18] (fun i' wr => i' = .int .i64 0 ∧ wr = w1) (fun i' _ => 0)
    case atStart => exact ⟨rfl, rfl⟩
    case round =>
      obtain ⟨rfl, rfl⟩ := hrel
      have HIF := hid_ (IndexFunc_red wr (.slice va (il 0 f).length vc) 0 [] (by simpa [ISl, il, ints] using HV1.out) (fun j => f j != 0) (fun w1 i u h1 hu => by simp at hu))
      go_wp2_with fail
      refine HIF.out.mono ?_
      rintro e w2 ⟨rfl, hx2⟩
      have HX2 := hid_ hx2
      clear hx2
      go_wp2_with fail
      go_ret2
      exact ⟨_, rfl, HV1.out.ex HX2.out, HX1.out.trans HX2.out⟩
  · have HCL := hid_ (Clone_any w (il t f) vv hv (by rw [il_len]; omega) (by rw [il_len]; omega))
    have HSB := hid_ (fun (w1 : World) (h1 : Ex w w1) (y z : Int) => Sub_any w1 (HG.out.ex h1) y z)
    have HMU := hid_ (fun (w1 : World) (h1 : Ex w w1) (y z : Int) => Mul_any w1 (HG.out.ex h1) y z)
    have HP2 := hid_ hg.sh.p2
    obtain ⟨K, hK⟩ : ∃ K, redK p m ml a pl f = K := ⟨_, rfl⟩
    have HK0 := hid_ (show K 0 = f from by rw [← hK]; rfl)
    have HKS := hid_ (fun k => show K (k + 1) = redI p m ml (K k) (pl k) (a k) from by rw [← hK]; rfl)
    rw [hK]
    rw [il_len] at HCL
    obtain ⟨va, vc, rfl, -, -, -⟩ := hv.open
    rw [il_len] at HCL ⊢
    clear hv hg hrows hplc r3 p3 hpl hK
    go_enter Tryz.func151, Tryz.ntmps151
    go_wp2_with fail
    refine HCL.out.mono ?_
    rintro e w1 ⟨g, cap, rfl, ho1, hx1⟩
    have e1' := hx1.cell E1.out
    have HO1 := hid_ (show OwnC w1 w.heap.size 3 g t cap (iv (K 0)) from ho1.icongr fun j hj => by
      rw [HK0.out]; exact eil_getD hj f)
    have HX1 := hid_ hx1
    clear ho1 hx1
    go_wp2_with fail
    go_loopw [18] (fun i' wr => ∃ i : Nat, i ≤ n ∧ i' = .int .i64 i ∧ Hid (OwnC wr w.heap.size 3 g t cap (iv (K i))) ∧ Hid (Ex w wr)) (fun i' _ => n - (intOf i').toNat)
    case atStart => exact ⟨0, by omega, rfl, HO1, HX1⟩
    case round =>
      clear HO1 e1'
      obtain ⟨i, hi, rfl, hown, hex⟩ := hrel
      by_cases hin : i < n
      · obtain ⟨rb, ro, rfl, hrc⟩ := R3.out (by omega)
        obtain ⟨pb, po, rfl, hpc⟩ := P3.out (by omega)
        obtain ⟨uv, huc, hui⟩ := hrc i _ (rowsL_get hin)
        have cu := hex.out.cell huc
        have cp := hex.out.cell (hpc i _ (il_get hin _))
        have d0 := hex.out.cell E0.out
        have d2 := hex.out.cell E2.out
        have hpt := HPL.out i hin
        have co : wr.cell? ⟨g, pl i, none⟩ = some (.int .i64 (K i (pl i))) := hown.out.cell hpt
        have i1 : (0 : Int) ≤ (i : Int) := by omega
        have i2 : (i : Int) < (n : Int) := by omega
        have i3 : (0 : Int) ≤ (pl i : Int) := by omega
        have i4 : (pl i : Int) < (t : Int) := by omega
        have HUI := hid_ hui
        have HOW := hid_ hown.out
        have HEX := hid_ hex.out
        have hks := HKS.out i
        obtain ⟨r, hr⟩ : ∃ r, a i = r := ⟨_, rfl⟩
        rw [hr] at HUI hks
        obtain ⟨u, hu⟩ : ∃ u, K i = u := ⟨_, rfl⟩
        rw [hu] at HOW hks co
        obtain ⟨pi, hpi⟩ : ∃ q, pl i = q := ⟨_, rfl⟩
        rw [hpi] at co hks hpt i3 i4 cp
        obtain ⟨x, hx⟩ : ∃ x, u pi = x := ⟨_, rfl⟩
        rw [hx] at co
        unfold redI at hks
        rw [hx] at hks
        obtain ⟨ua, uc, rfl, u1, u2, u3⟩ := HUI.out.open
        rw [il_len] at u1 u3 cu
        unfold maxLen at u2
        have U3 := hid_ u3
        clear hpc hrc huc hui u3 hr hu hpi hown hex HUI
        by_cases h0 : x = 0
        · rw [if_pos h0] at hks
          have hb0 : (x != 0) = false := by simp [h0]
          have HO2 := hid_ (show OwnC wr w.heap.size 3 g t cap (iv (K (i + 1))) from by rw [hks]; exact HOW.out)
          clear h0 hx hks
          go_wp2_with fail
          go_roundw
          case rel => exact ⟨i + 1, by omega, by go_num, HO2, HEX⟩
          case measure => simp [intOf]; omega
        · rw [if_neg h0] at hks
          have hb0 : (x != 0) = true := by simpa using h0
          have HKE := hid_ hks
          clear h0 hx hks
          go_wp2_with fail
          obtain ⟨w8, hw8⟩ : ∃ w8, w8 = wr := ⟨_, rfl⟩
          have HEX8 := hid_ HEX.out
          rw [← hw8] at HEX8
          have HO8 := hid_ (show OwnC w8 w.heap.size 3 g t cap (iv (redC p m ml x u r 0)) from by rw [redC_zero, hw8]; exact HOW.out)
          have HLI := hid_ (show ∀ w', Ex w w' → w'.cell? ⟨E, 0, none⟩ = some (.pointer (some ⟨b, 0, none⟩)) from fun w' h => h.cell E0.out)
          have HWW := hid_ (hw8 ▸ HEX.out)
          have U8 := hid_ (show 0 < t → ∃ b_1 o, ua = some ⟨b_1, o, none⟩ ∧ ∀ (j : Nat) (x : Int), (il t r)[j]? = some x → w.cell? ⟨b_1, o + j, none⟩ = some (.int .i64 x) from U3.out)
          subst hw8
          clear co cp cu d0 d2 HOW HEX
          go_loopw [37] (fun c' wr => ∃ c : Nat, c ≤ t ∧ c' = .int .i64 c ∧ Hid (OwnC wr w.heap.size 3 g t cap (iv (redC p m ml x u r c))) ∧ Hid (Ex w wr)) (fun c' _ => t - (intOf c').toNat)
          case atStart => exact ⟨0, by omega, rfl, HO8, HEX8⟩
          case round =>
            clear HO8 HEX8
            obtain ⟨c, hc, rfl, hown, hex⟩ := hrel
            by_cases hct : c < t
            · obtain ⟨ub, uo, rfl, huc⟩ := U8.out (by omega)
              have d1 := hex.out.cell (huc c (r c) (il_get hct r))
              have j1 : (0 : Int) ≤ (c : Int) := by omega
              have j2 : (c : Int) < (t : Int) := by omega
              have HEX := hid_ hex.out
              have HOW := hid_ hown.out
              clear huc hown hex
              by_cases hr0 : r c = 0
              · have hb1 : (r c != 0) = false := by simp [hr0]
                have HO2 := hid_ (show OwnC wr w.heap.size 3 g t cap (iv (redC p m ml x u r (c + 1))) from by rw [redC_skip hr0]; exact HOW.out)
                clear hr0 HOW
                go_wp2_with fail
                go_roundw
                case rel => exact ⟨c + 1, by omega, by go_num, HO2, HEX⟩
                case measure => simp [intOf]; omega
              · have hb1 : (r c != 0) = true := by simpa using hr0
                have hcv : wr.cell? ⟨g, c, none⟩ = some (.int .i64 (u c)) := by
                  rw [HOW.out.cell hct]; show some (Value.int .i64 (redC p m ml x u r c c)) = _; unfold redC; rw [if_neg (by omega)]
                have hfv := HOW.out.frz c
                have d0 := HLI.out _ HEX.out
                obtain ⟨K1, hK1⟩ : ∃ K, kmul p m (lw ml) (kin (p ^ m) x) (kin (p ^ m) (r c)) = K := ⟨_, rfl⟩
                have hK1l : K1 < p ^ m := by rw [← hK1]; exact kmul_lt (by have := HP2.out; omega) _ _
                have HMUL := hid_ (fun w' (h : Ex w w') => HMU.out w' h x (r c))
                rw [hK1] at HMUL
                obtain ⟨K2, hK2⟩ : ∃ K, kadd p m (kin (p ^ m) (u c)) (kneg p m (kin (p ^ m) (K1 : Nat))) = K := ⟨_, rfl⟩
                have HSUB := hid_ (fun w' (h : Ex w w') => HSB.out w' h (u c) (K1 : Nat))
                rw [hK2] at HSUB
                have HAF := hid_ (show redJ p m ml x u r c = (K2 : Nat) from by
                  unfold redJ; rw [if_neg hr0, hK1, ← hK2, kin_of hK1l])
                obtain ⟨rc, hrc⟩ : ∃ y, r c = y := ⟨_, rfl⟩
                rw [hrc] at hb1 d1 HMUL
                clear hK1 hK2 hK1l hr0 hrc
                have HO2 := hid_ (fun n => show OwnC ((wr.drewN n).setCell ⟨g, c, none⟩ (.int .i64 (K2 : Nat))) w.heap.size 3 g t cap (iv (redC p m ml x u r (c + 1))) from by
                  have := (HOW.out.drewN n).set c (.int .i64 (K2 : Nat))
                  rw [iv_upd, ← HAF.out, redC_succ] at this
                  rw [← HAF.out]
                  exact this)
                have HX2 := hid_ (fun n => (HOW.out.drewN n).exSet (a := w) (Nat.le_refl _) (HEX.out.drewN n) c (.int .i64 (K2 : Nat)))
                have G0 : Ex w wr.drew := HEX.out.drewN 1
                clear HOW
                go_upto_region 11 with fail
                go_region_law
                    ((first
                      | (go_simp; go_at_call 59; (with_reducible refine (HMUL.out _ (HEX.out.drewN _)).mono ?_); rintro e wx1 ⟨rfl, n1, rfl⟩)
                      | (go_simp; go_at_call 59; (with_reducible refine (HMUL.out _ G0).mono ?_); rintro e wx1 ⟨rfl, n1, rfl⟩)
                      | (go_simp; go_at_call 172; (with_reducible refine (HSUB.out _ (HEX.out.drewN _)).mono ?_); rintro e wx2 ⟨rfl, n2, rfl⟩)))
                all_goals
                  clear HMUL HSUB G0 hcv hfv HSB HMU HCL HKE d0 d1
                  go_wp2_with fail
                  go_roundw
                  case measure => simp [intOf]; omega
                  case rel => exact ⟨c + 1, by omega, by go_num, hid_ (HO2.out _), hid_ (HX2.out _)⟩
            · obtain rfl : c = t := by omega
              have HO2 := hid_ (show OwnC wr w.heap.size 3 g c cap (iv (K (i + 1))) from hown.out.icongr fun j hj => by rw [redC_all hj, HKE.out])
              have HEX := hid_ hex.out
              clear hown hex
              go_wp2_with fail
              go_roundw
              case rel => first | exact ⟨i + 1, by omega, by go_num, HO2, HEX⟩ | ((repeat apply Exists.intro); exact ⟨⟨i + 1, by omega, by go_num, HO2, HEX⟩, rfl⟩)
              case measure => simp [intOf]; omega
      · obtain rfl : i = n := by omega
        have HOW := hid_ hown.out
        have HEX := hid_ hex.out
        have HIF := hid_ (IndexFunc_red wr (.slice (some ⟨g, 0, none⟩) t cap) t _ hown.out.sl (fun j => K i j != 0) (fun w1 j u h1 hu => by
          have hj : j < t := by
            have := (List.getElem?_eq_some_iff.1 hu).1
            rw [vs_length] at this; exact this
          rw [vs_get hj] at hu
          injection hu with hu
          subst hu
          exact red1_any w1 (K i j)))
        clear hown hex
        go_wp2_with fail
        refine HIF.out.mono ?_
        rintro e w2 ⟨rfl, hx2⟩
        have HX2 := hid_ hx2
        clear hx2
        go_wp2_with fail
        go_ret2
        exact ⟨_, rfl, (HOW.out.ex HX2.out).isl, HEX.out.trans HX2.out⟩
end
end Go.Proofs.YtgdmlmhpineibaaGreat
