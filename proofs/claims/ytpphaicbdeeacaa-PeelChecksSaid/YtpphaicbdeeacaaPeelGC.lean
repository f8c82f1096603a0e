/- Walk of the reference's Girth. -/
import Derived.Test.YtpphaicbdeeacaaPeelGB
namespace Go.Proofs.Ytpphaicbdeeacaa
set_option linter.unusedVariables false
set_option linter.unusedSimpArgs false
open Go.RowKit

theorem PthO.unique {N : Nat} {rows : List (List Int)} {i v : Nat} {d e : Int} (h : PthO N rows i v d) (k : PthO N rows i v e) : d = e := by
  have a : ∀ {d e : Int}, PthO N rows i v d → PthO N rows i v e → 0 < d → 0 < e ∧ e ≤ d := fun h k h0 => by
    obtain ⟨n, rfl, hw⟩ := h.2.2 h0
    exact k.2.1 n hw
  have h1 := h.1
  have k1 := k.1
  by_cases hd : 0 < d
  · have := a h k hd
    have := a k h this.1
    omega
  · by_cases he : 0 < e
    · have := a k h he
      omega
    · omega
def GR (N : Nat) (rows : List (List Int)) (i a : Nat) (out : Int) : Prop := 0 ≤ out ∧ out ≤ 321 ∧ (0 < out → ∃ (i' v : Nat) (d : Int), Edp N rows i a (N + i') v ∧ PthO N rows i' v d ∧ 0 < d ∧ out = d + 1) ∧
  (∀ i' v : Nat, Edp N rows i a (N + i') v → ∀ d, PthO N rows i' v d → 0 < d → 0 < out ∧ out ≤ d + 1) ∧ (∀ i' v : Nat, Edp N rows i a (N + i') v → ∃ d, PthO N rows i' v d)
section
variable {N : Nat} {rows : List (List Int)} {i a : Nat} {out d : Int}
theorem Edp.none {c v : Nat} : ¬ Edp N rows 0 0 c v := by
  rintro ⟨i, r, e, _, _, _, h⟩; omega
theorem GR.zero : GR N rows 0 0 0 := ⟨by omega, by omega, fun h => absurd h (by omega), fun i' v h => absurd h Edp.none, fun i' v h => absurd h Edp.none⟩
theorem GR.step {r : List Int} {v : Nat} (hj : rows[i]? = some r) (ha : r[a]? = some (v : Int)) (hd : PthO N rows i v d) (hd2 : d ≤ 320) (h : GR N rows i a out) : GR N rows i (a + 1) (if 0 < d ∧ (out = 0 ∨ d + 1 < out) then d + 1 else out) := by
  obtain ⟨h1, h2, h3, h4, h5⟩ := h
  have hd0 := hd.1
  have new : ∀ {i' v' : Nat}, Edp N rows i (a + 1) (N + i') v' → Edp N rows i a (N + i') v' ∨ (i' = i ∧ v' = v) := fun he => by
    rcases (Edp.succ hj ha).1 he with he | ⟨e1, e2⟩
    · exact .inl he
    · exact .inr ⟨by omega, e2⟩
  have hnew : Edp N rows i (a + 1) (N + i) v := (Edp.succ hj ha).2 (.inr ⟨rfl, rfl⟩)
  have up : ∀ {i' v' : Nat}, Edp N rows i a (N + i') v' → Edp N rows i (a + 1) (N + i') v' := fun he => (Edp.succ hj ha).2 (.inl he)
  refine ⟨by split <;> omega, by split <;> omega, fun h0 => ?_, fun i' v' he d' hd' h0 => ?_, fun i' v' he => ?_⟩
  · by_cases e : 0 < d ∧ (out = 0 ∨ d + 1 < out)
    · rw [if_pos e]; exact ⟨i, v, d, hnew, hd, e.1, rfl⟩
    · rw [if_neg e] at h0 ⊢
      obtain ⟨i', v', d', k1, k2⟩ := h3 h0
      exact ⟨i', v', d', up k1, k2⟩
  · rcases new he with he | ⟨rfl, rfl⟩
    · have := h4 i' v' he d' hd' h0
      split <;> omega
    · have := hd.unique hd'
      subst this
      split <;> omega
  · rcases new he with he | ⟨rfl, rfl⟩
    · exact h5 i' v' he
    · exact ⟨d, hd⟩
theorem GR.row {r : List Int} (hj : rows[i]? = some r) (h : GR N rows i r.length out) : GR N rows (i + 1) 0 out := by
  obtain ⟨h1, h2, h3, h4, h5⟩ := h
  exact ⟨h1, h2, fun h0 => by obtain ⟨i', v', d', k1, k2⟩ := h3 h0; exact ⟨i', v', d', (Edp.row hj).1 k1, k2⟩, fun i' v he => h4 i' v ((Edp.row hj).2 he), fun i' v he => h5 i' v ((Edp.row hj).2 he)⟩
theorem GR.fin {m : Int} (hp : pchkS N rows = 0) (h : GR N rows rows.length 0 out) (hm : GirOut N rows m) : m = out := gir_eq hp hm h.1 h.2.2.1 h.2.2.2.1 h.2.2.2.2
end

set_option maxRecDepth 100000 in
set_option maxHeartbeats 4000000 in
theorem rGirth_any (w : World) (V : Int) (v : Value) (rows : List (List Int)) (hv : MSl w v rows) :
    Calls Try.prog 19 #[.agg #[.int .i64 V, v]] w fun r w' => ∃ n, r = .returned (.tuple #[.int .i64 n, .int .i64 (pchkS V rows)]) ∧ (∀ m, GirOut V rows m → m = n) ∧ Ex w w' := by
  obtain ⟨d0, d1, e0⟩ := boxT_facts w V v
  have HV := hid_ (hv.ex e0)
  obtain ⟨za, zc, rfl, z1, z2, _⟩ := hv.open
  unfold maxLen at z2
  obtain ⟨xb, hxb⟩ : ∃ xb, w.heap.size = xb := ⟨_, rfl⟩
  rw [hxb] at d0 d1
  clear hv
  go_enter Try.func19, Try.ntmps19
  go_wp2_with fail
  try simp only [hxb]
  clear hxb
  generalize w.alloc (.cells #[.int .i64 V, .slice za rows.length zc] 31) = w0 at *
  have E0 := hid_ e0
  have D0 := hid_ d0
  have D1 := hid_ d1
  clear e0
  refine (rChkT_any w0 V rows _ HV.out).mono ?_
  rintro e w1 ⟨rfl, hx1⟩
  have d0 := hx1.cell d0
  have d1 := hx1.cell d1
  by_cases hk : pchkS V rows = 0
  · have HK := hid_ hk
    obtain ⟨N, rfl, hN1, hN2, hrl, hri, hris⟩ := pchkS_ok hk
    have HRI := hid_ hri
    rw [hk]
    have HX := hid_ hx1
    have HG0 := hid_ (show GR N rows 0 0 0 from GR.zero)
    clear hk hri hris hx1
    go_wp2_with fail
    go_loopw [5, 6] (fun o' i' wr => ∃ (out : Int) (i : Nat), i ≤ rows.length ∧ i' = .int .i64 i ∧ o' = .int .i64 out ∧ Hid (GR N rows i 0 out) ∧ Hid (Ex w0 wr)) (fun _ i' _ => rows.length - (intOf i').toNat)
    case atStart => exact ⟨0, 0, by omega, rfl, rfl, HG0, HX⟩
    case round =>
      clear HG0 HX d0 d1
      obtain ⟨out, i, hi, rfl, rfl, hg, hx⟩ := hrel
      have d0 := hx.out.cell D0.out
      have d1 := hx.out.cell D1.out
      by_cases hil : i < rows.length
      · obtain ⟨r, hr⟩ : ∃ r, rows[i]? = some r := ⟨_, List.getElem?_eq_getElem hil⟩
        obtain ⟨_, _, e1, _, _, h3⟩ := HV.out.open
        injection e1 with e1 e2 e3
        subst e1 e3
        obtain ⟨zb, zo, rfl, hzc⟩ := h3 (by omega)
        obtain ⟨uz, c1, huz⟩ := hzc i r hr
        obtain ⟨ua, uc, rfl, u1, u2, u3⟩ := huz.open
        unfold maxLen at u2
        have U3 := hid_ u3
        have HC1 := hid_ c1
        have HR := hid_ hr
        have i1 : (0 : Int) ≤ (i : Int) := by omega
        have i2 : (i : Int) < (rows.length : Int) := by omega
        clear h3 hzc huz u3 hr c1
        go_wp2_with fail
        go_loopw [5, 7] (fun o' a' wr => ∃ (out : Int) (a : Nat), a ≤ r.length ∧ a' = .int .i64 a ∧ o' = .int .i64 out ∧ Hid (GR N rows i a out) ∧ Hid (Ex w0 wr)) (fun _ a' _ => r.length - (intOf a').toNat)
        case atStart => exact ⟨out, 0, by omega, rfl, rfl, hg, hx⟩
        case round =>
          clear hg hx d0 d1
          obtain ⟨out, a, ha, rfl, rfl, hg, hx⟩ := hrel
          have d1 := hx.out.cell D1.out
          have c1 := hx.out.cell HC1.out
          by_cases hal : a < r.length
          · obtain ⟨y, hy⟩ : ∃ y, r[a]? = some y := ⟨_, List.getElem?_eq_getElem hal⟩
            obtain ⟨y1, y2⟩ := HRI.out i r a y HR.out hy
            obtain ⟨Y, rfl⟩ : ∃ Y : Nat, y = Y := ⟨y.toNat, by omega⟩
            obtain ⟨rb, ro, rfl, hrc⟩ := U3.out (by omega)
            have HC2 := hid_ (hrc a Y hy)
            have HPA := hid_ (fun w' (h : Ex w0 w') => rPath_any w' N rows _ (HV.out.ex h) hN2 hrl HRI.out i Y hil (by omega))
            have HST := hid_ (fun d h1 h2 => hg.out.step (d := d) HR.out hy h1 h2)
            have o1 := hg.out.1
            have o2 := hg.out.2.1
            have k1 : (0 : Int) ≤ (a : Int) := by omega
            have k2 : (a : Int) < (r.length : Int) := by omega
            have k3 : (0 : Int) ≤ (Y : Int) := by omega
            clear hy hrc hg
            go_upto_region 11 with fail
            have E1 : Ex wr wr.drew := (Ex.refl wr).drew
            have G0 : Ex w0 wr.drew := hx.out.trans E1
            clear d1 c1
            go_region_held3 (fun w' => w'.cell? ⟨xb, 0, none⟩ = some (.int .i64 N) ∧ w'.cell? ⟨xb, 1, none⟩ = some (.slice (some ⟨zb, zo, none⟩) rows.length zc) ∧ w'.cell? ⟨zb, zo + i, none⟩ = some (.slice (some ⟨rb, ro, none⟩) r.length uc) ∧ w'.cell? ⟨rb, ro + a, none⟩ = some (.int .i64 Y))
              (first | with_reducible exact ⟨G0.cell D0.out, G0.cell D1.out, G0.cell HC1.out, G0.cell HC2.out⟩ | with_reducible exact ⟨G1.cell D0.out, G1.cell D1.out, G1.cell HC1.out, G1.cell HC2.out⟩)
              ((go_at_call 47; (with_reducible refine (HPA.out _ G0).mono ?_); rintro e wx1 ⟨d, rfl, hd, hd2, hy1⟩; have G1 := G0.trans hy1))
            have HSD := hid_ (HST.out d hd hd2)
            have hd0 := hd.1
            have HG1 := hid_ G1
            clear hd HST G0 G1 hy1 HPA E1
            by_cases h0 : 0 < d
            · have b0 : decide (0 < d) = true := by simp; omega
              have w1_ : IntKind.i64.wrap (d + 1) = d + 1 := IntWalk.i64_in _ (by omega)
              by_cases h1 : out = 0
              · have b1 : (out == 0) = true := by simp [h1]
                rw [if_pos ⟨h0, .inl h1⟩] at HSD
                clear h1 h0
                go_wp2_with fail
                go_roundw
                case rel => exact ⟨d + 1, a + 1, by omega, by go_num, rfl, HSD, HG1⟩
                case measure => simp [intOf]; omega
              · have b1 : (out == 0) = false := by simpa using h1
                by_cases h2 : d + 1 < out
                · have b2 : decide (d + 1 < out) = true := by simp; omega
                  rw [if_pos ⟨h0, .inr h2⟩] at HSD
                  clear h1 h0
                  go_wp2_with fail
                  go_roundw
                  case rel => exact ⟨d + 1, a + 1, by omega, by go_num, rfl, HSD, HG1⟩
                  case measure => simp [intOf]; omega
                · have b2 : decide (d + 1 < out) = false := by simp; omega
                  rw [if_neg (by rintro ⟨_, h | h⟩; exact h1 h; exact h2 h)] at HSD
                  clear h1 h0 h2
                  go_wp2_with fail
                  go_roundw
                  case rel => exact ⟨out, a + 1, by omega, by go_num, rfl, HSD, HG1⟩
                  case measure => simp [intOf]; omega
            · have b0 : decide (0 < d) = false := by simp; omega
              rw [if_neg (fun h => h0 h.1)] at HSD
              clear h0
              go_wp2_with fail
              go_roundw
              case rel => exact ⟨out, a + 1, by omega, by go_num, rfl, HSD, HG1⟩
              case measure => simp [intOf]; omega
          · obtain rfl : r.length = a := by omega
            have HGR := hid_ (hg.out.row HR.out)
            clear hg
            go_wp2_with fail
            go_roundw
            case rel => exact ⟨out, i + 1, by omega, by go_num, rfl, HGR, hx⟩
            case measure => simp [intOf]; omega
      · obtain rfl : rows.length = i := by omega
        have HF := hid_ (fun m (h : GirOut N rows m) => hg.out.fin HK.out h)
        have HX := hid_ (E0.out.trans hx.out)
        clear hg
        go_wp2_with fail
        go_ret2
        exact ⟨out, by rw [HK.out]; rfl, HF.out, HX.out⟩
  · have hb : (pchkS V rows != 0) = true := by simpa using hk
    have HF := hid_ (show ∀ m, GirOut V rows m → m = 0 from fun m h => h.1 hk)
    have HX := hid_ (E0.out.trans hx1)
    clear hk hx1
    go_wp2_with fail
    go_ret2
    exact ⟨0, rfl, HF.out, HX.out⟩
end Go.Proofs.Ytpphaicbdeeacaa
