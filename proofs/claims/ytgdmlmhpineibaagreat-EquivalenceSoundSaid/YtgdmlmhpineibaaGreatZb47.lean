/- Walk of codewrightref04.Same. -/
/- Walk of codewrightref12.Same. -/
/- Walks of codewrightref04.Pow and codewrightref31.frob. -/
/- Walk of codewrightref31.image. -/
/- Walks of the reference's Entries (any field), List, Weight and Word. -/
/- Walk of codewrightref31.Inverse. -/
/- Walk of codewrightref31.Compose (printed by gen_cmp.py). -/
/- The walk of codewrightref12.Few. -/
/- The walk of codewrightref10.Check. -/
import Derived.BigQuiet
import Derived.Deep.RegionHeld3
import Derived.Deep.CutRange
import Derived.Test.YtgdmlmhpineibaaGreatZb08
import Derived.Test.YtgdmlmhpineibaaGreatZb19
import Derived.Test.YtgdmlmhpineibaaGreatZb21
import Derived.Test.YtgdmlmhpineibaaGreatZb23
import Derived.Test.YtgdmlmhpineibaaGreatZb24
import Derived.Test.YtgdmlmhpineibaaGreatZb27
import Derived.Test.YtgdmlmhpineibaaGreatZb37
import Derived.Test.YtgdmlmhpineibaaGreatZb46
namespace Go.Proofs.YtgdmlmhpineibaaGreat
set_option linter.unusedVariables false
set_option linter.unusedSimpArgs false
open Go.RowKit

set_option maxRecDepth 100000 in
set_option maxHeartbeats 4000000 in
theorem rFSame_any (w : World) (p m : Int) (ml : List Int) (mv : Value) (hmv : ISl w mv ml) (p' m' : Int) (ml' : List Int) (mv' : Value) (hmv' : ISl w mv' ml') :
    Calls Tryz.prog 76 #[.agg #[.int .i64 p, .int .i64 m, mv], .agg #[.int .i64 p', .int .i64 m', mv']] w fun r w' => r = .returned (.bool (samF p m ml p' m' ml')) ∧ Ex w w' := by
  obtain ⟨a0, a1, a2, ea, -⟩ := box_facts w p m mv
  obtain ⟨b0, b1, b2, eb, -⟩ := box_facts (w.alloc (.cells #[.int .i64 p, .int .i64 m, mv] 24)) p' m' mv'
  replace a0 := eb.cell a0
  replace a1 := eb.cell a1
  replace a2 := eb.cell a2
  have hsz : (w.alloc (.cells #[.int .i64 p, .int .i64 m, mv] 24)).heap.size = w.heap.size + 1 := by simp
  rw [hsz] at b0 b1 b2
  have HE := hid_ (ea.trans eb)
  obtain ⟨ma, mc, rfl, m1', m2, m3⟩ := hmv.open
  obtain ⟨na, nc, rfl, -, n2, n3⟩ := hmv'.open
  unfold maxLen at m2 n2
  obtain ⟨R, hR⟩ : ∃ R, samF p m ml p' m' ml' = R := ⟨_, rfl⟩
  rw [hR]
  have M3 := hid_ m3
  have N3 := hid_ n3
  have HR := hid_ hR
  clear hmv hmv' hsz ea eb m3 n3 hR
  go_enter Tryz.func76, Tryz.ntmps76
  by_cases h1 : p = p'
  · have b1' : (p != p') = false := by simpa using h1
    by_cases h2 : m = m'
    · have b2' : (m != m') = false := by simpa using h2
      by_cases h3 : ml.length = ml'.length
      · have b3 : ((ml.length : Int) != (ml'.length : Int)) = false := by simp; omega
        subst h1
        subst h2
        have hn : ∃ n, ml.length = n := ⟨_, rfl⟩
        have HRB := hid_ (show R = true ↔ ml = ml' from by rw [← HR.out, samF_iff]; simp)
        have H3 := hid_ h3
        rw [← h3] at a0 a1 a2 b0 b1 b2 HE ⊢
        clear h3 b3 hn
        go_wp2_with fail
        generalize (w.alloc (.cells #[.int .i64 p, .int .i64 m, .slice ma ml.length mc] 24)).alloc (.cells #[.int .i64 p, .int .i64 m, .slice na ml.length nc] 24) = w1 at *
        have A2 := hid_ a2
        have B2 := hid_ b2
        go_loopw [5] (fun i' wr => ∃ (i : Nat), i ≤ ml.length ∧ i' = .int .i64 i ∧ (∀ j, j < i → ml.getD j 0 = ml'.getD j 0) ∧ Hid (Ex w1 wr)) (fun i' _ => ml.length - (intOf i').toNat)
        case atStart => exact ⟨0, by omega, rfl, fun j hj => by omega, hid_ (Ex.refl _)⟩
        case round =>
          obtain ⟨i, hi, rfl, hall, hex⟩ := hrel
          have HAL := hid_ hall
          clear hall a0 a1 b0 b1
          by_cases hin : i < ml.length
          · obtain ⟨mb, mo, rfl, hmc⟩ := M3.out (by omega)
            obtain ⟨nb, no, rfl, hnc⟩ := N3.out (by have := H3.out; omega)
            have c1 := hex.out.cell (HE.out.cell (hmc i _ (show ml[i]? = some (ml.getD i 0) from by rw [List.getD_eq_getElem?_getD, List.getElem?_eq_getElem hin]; rfl)))
            have c2 := hex.out.cell (HE.out.cell (hnc i _ (show ml'[i]? = some (ml'.getD i 0) from by rw [List.getD_eq_getElem?_getD, List.getElem?_eq_getElem (by have := H3.out; omega)]; rfl)))
            have f2 := hex.out.cell A2.out
            have g2 := hex.out.cell B2.out
            have j1 : (0 : Int) ≤ (i : Int) := by omega
            have j2 : (i : Int) < (ml.length : Int) := by omega
            have hmm : m2 = m2 := rfl
            obtain ⟨x, hx⟩ : ∃ x, ml.getD i 0 = x := ⟨_, rfl⟩
            obtain ⟨y, hy⟩ : ∃ y, ml'.getD i 0 = y := ⟨_, rfl⟩
            rw [hx] at c1
            rw [hy] at c2
            have HXY := hid_ (show x = ml.getD i 0 ∧ y = ml'.getD i 0 from ⟨hx.symm, hy.symm⟩)
            clear hx hy hmc hnc a2 b2 hmm
            by_cases hxy : x = y
            · have HA2 := hid_ (show ∀ j, j < i + 1 → ml.getD j 0 = ml'.getD j 0 from fun j hj => by
                by_cases e : j = i
                · subst e; rw [← HXY.out.1, ← HXY.out.2, hxy]
                · exact HAL.out j (by omega))
              have bb : (x != y) = false := by simp [hxy]
              have hyx : y = x := hxy.symm
              subst hyx
              clear hxy
              go_upto_region 6 with fail
              go_quiet (fail)
              go_wp2_with fail
              go_roundw
              case rel => exact ⟨i + 1, by omega, by go_num, HA2.out, hid_ (hex.out.drewN _)⟩
              case measure => simp [intOf]; omega
            · have bb : (x != y) = true := by simpa using hxy
              have hr : R = false := Bool.eq_false_iff.2 fun h => hxy (by rw [HXY.out.1, HXY.out.2, HRB.out.1 h])
              subst hr
              have hyx : ¬ y = x := fun h => hxy h.symm
              go_upto_region 6 with fail
              go_quiet (fail)
              go_wp2_with fail
              go_ret
              exact ⟨rfl, HE.out.trans (hex.out.drewN _)⟩
          · obtain rfl : i = ml.length := by omega
            have f2 := hex.out.cell A2.out
            have hr : R = true := HRB.out.2 (List.ext_getElem? fun j => by
              by_cases hj : j < ml.length
              · have := HAL.out j hj
                rw [List.getElem?_eq_getElem hj, List.getElem?_eq_getElem (by have := H3.out; omega)]
                rw [List.getD_eq_getElem?_getD, List.getElem?_eq_getElem hj, List.getD_eq_getElem?_getD, List.getElem?_eq_getElem (by have := H3.out; omega)] at this
                simpa using this
              · rw [List.getElem?_eq_none (by omega), List.getElem?_eq_none (by have := H3.out; omega)])
            subst hr
            go_wp2_with fail
            go_ret
            exact ⟨rfl, HE.out.trans hex.out⟩
      · have b3 : ((ml.length : Int) != (ml'.length : Int)) = true := by simp; omega
        have hr : R = false := by
          rw [← HR.out]
          exact Bool.eq_false_iff.2 fun h => h3 (by rw [(samF_iff.1 h).2.2])
        subst hr
        have h3' : ¬ ((ml.length : Int) = (ml'.length : Int)) := by omega
        clear h3 h1 h2
        go_wp2_with fail
        go_ret
        exact ⟨rfl, HE.out⟩
    · have b2' : (m != m') = true := by simpa using h2
      have hr : R = false := by
        rw [← HR.out]
        exact Bool.eq_false_iff.2 fun h => h2 (samF_iff.1 h).2.1
      subst hr
      clear h1 h2
      go_wp2_with fail
      go_ret
      exact ⟨rfl, HE.out⟩
  · have b1' : (p != p') = true := by simpa using h1
    have hr : R = false := by
      rw [← HR.out]
      exact Bool.eq_false_iff.2 fun h => h1 (samF_iff.1 h).1
    subst hr
    clear h1
    go_wp2_with fail
    go_ret
    exact ⟨rfl, HE.out⟩
end Go.Proofs.YtgdmlmhpineibaaGreat
namespace Go.Proofs.YtgdmlmhpineibaaGreat
set_option linter.unusedVariables false
set_option linter.unusedSimpArgs false
open Go.RowKit

/-- Two Code values are equal. -/
def samC (c d : CdV) : Bool := samF c.p c.m c.ml d.p d.m d.ml && (decide (c.n = d.n) && decide (c.rows = d.rows))
theorem samC_iff {c d : CdV} : samC c d = true ↔ c = d := by
  obtain ⟨p, m, ml, n, rows⟩ := c
  obtain ⟨p', m', ml', n', rows'⟩ := d
  simp only [samC, Bool.and_eq_true, decide_eq_true_eq, samF_iff, CdV.mk.injEq]
  constructor
  · rintro ⟨⟨h1, h2, h3⟩, h4, h5⟩; exact ⟨h1, h2, h3, h4, h5⟩
  · rintro ⟨h1, h2, h3, h4, h5⟩; exact ⟨⟨h1, h2, h3⟩, h4, h5⟩
set_option maxRecDepth 100000 in
set_option maxHeartbeats 4000000 in
theorem rCSame_any (w : World) (c d : CdV) (m1 m2 v1 v2 : Value) (hc : c.at w m1 v1) (hd : d.at w m2 v2) :
    Calls Tryz.prog 39 #[c.arg m1 v1, d.arg m2 v2] w fun r w' => r = .returned (.bool (samC c d)) ∧ Ex w w' := by
  obtain ⟨c0, c1, c2, c3, c4⟩ := boxC5 w c m1 v1
  obtain ⟨d0, d1, d2, d3, d4⟩ := boxC5 (w.alloc (c.obj m1 v1)) d m2 v2
  have hz1 : (w.alloc (c.obj m1 v1)).heap.size = w.heap.size + 1 := by simp
  have e1 := e_al w (c.obj m1 v1)
  have e2 := e_al (w.alloc (c.obj m1 v1)) (d.obj m2 v2)
  rw [hz1] at d0 d1 d2 d3 d4
  replace c0 := e2.cell c0
  replace c1 := e2.cell c1
  replace c2 := e2.cell c2
  replace c3 := e2.cell c3
  replace c4 := e2.cell c4
  have hxw := e1.trans e2
  have HSF := hid_ (rFSame_any _ c.p c.m c.ml m1 ((hc.ex hxw).m) d.p d.m d.ml m2 ((hd.ex hxw).m))
  have HSR := hid_ (fun (w' : World) (h : Ex ((w.alloc (c.obj m1 v1)).alloc (d.obj m2 v2)) w') => SameRows_any w' c.rows d.rows v1 v2 ((hc.ex (hxw.trans h)).g) ((hd.ex (hxw.trans h)).g))
  obtain ⟨x1, y1, rfl, -, z1, -⟩ := hc.g.open
  obtain ⟨x2, y2, rfl, -, z2, -⟩ := hd.g.open
  obtain ⟨x3, y3, rfl, -, z3, -⟩ := hc.m.open
  obtain ⟨x4, y4, rfl, -, z4, -⟩ := hd.m.open
  have HX := hid_ hxw
  obtain ⟨p, m, ml, n, rows⟩ := c
  obtain ⟨p', m', ml', n', rows'⟩ := d
  obtain ⟨B, hB⟩ : ∃ B, w.heap.size = B := ⟨_, rfl⟩
  rw [hB] at c0 c1 c2 c3 c4 d0 d1 d2 d3 d4
  obtain ⟨F, hF⟩ : ∃ F, samF p m ml p' m' ml' = F := ⟨_, rfl⟩
  have HSM := hid_ (show samC ⟨p, m, ml, n, rows⟩ ⟨p', m', ml', n', rows'⟩ = (F && (decide (n = n') && decide (rows = rows'))) from by rw [← hF]; rfl)
  rw [HSM.out]
  clear HSM
  dsimp only [CdV.arg, CdV.obj] at *
  rw [hF] at HSF
  clear hF
  clear hc hd e1 e2 hxw hz1 z1 z2 z3 z4
  go_enter Tryz.func39, Tryz.ntmps39
  go_upto_region 1 with fail
  try simp only [hB]
  clear hB
  generalize (w.alloc (.cells #[.int .i64 p, .int .i64 m, .slice x3 ml.length y3, .int .i64 n, .slice x1 rows.length y1] 47)).alloc (.cells #[.int .i64 p', .int .i64 m', .slice x4 ml'.length y4, .int .i64 n', .slice x2 rows'.length y2] 47) = wB at *
  have HALL := hid_ (fun w' (h : Ex wB w') => (⟨h.cell c3, h.cell c4, h.cell d3, h.cell d4⟩ : _ ∧ _ ∧ _ ∧ _))
  cases F with
  | false =>
    go_wp2_with fail
    refine HSF.out.mono ?_
    rintro e w2 ⟨rfl, hx2⟩
    have HX2 := hid_ (HX.out.trans hx2)
    clear c0 c1 c2 c3 c4 d0 d1 d2 d3 d4 hx2
    go_wp2_with fail
    go_ret
    exact ⟨rfl, HX2.out⟩
  | true =>
    go_wp2_with fail
    refine HSF.out.mono ?_
    rintro e w2 ⟨rfl, hx2⟩
    have HX2 := hid_ hx2
    clear c0 c1 c2 c3 c4 d0 d1 d2 d3 d4 hx2
    obtain ⟨c3, c4, d3, d4⟩ := HALL.out w2 HX2.out
    by_cases hn : n = n'
    · subst hn
      have k1 : (n == n) = true := by simp
      have HR := hid_ (HSR.out w2 HX2.out)
      obtain ⟨D, hD⟩ : ∃ D, decide (rows = rows') = D := ⟨_, rfl⟩
      rw [hD] at HR
      have HD := hid_ hD
      clear hD
      go_wp2_with fail
      refine HR.out.mono ?_
      rintro e w3 ⟨rfl, n3, rfl⟩
      have HX3 := hid_ ((Ex.refl w2).drewN n3)
      go_wp2_with fail
      go_ret
      refine ⟨?_, HX.out.trans (HX2.out.trans HX3.out)⟩
      have := HD.out
      simp [this]
    · have k1 : (n == n') = false := by simpa using hn
      have HN := hid_ hn
      clear hn
      go_wp2_with fail
      go_ret
      refine ⟨?_, HX.out.trans HX2.out⟩
      have := HN.out
      simp [this]
end Go.Proofs.YtgdmlmhpineibaaGreat
namespace Go.Proofs.YtgdmlmhpineibaaGreat
set_option linter.unusedVariables false
set_option linter.unusedSimpArgs false
open Go.RowKit

section
variable {p m : Nat} {ml : List Int} {mv : Value}
end
end Go.Proofs.YtgdmlmhpineibaaGreat
namespace Go.Proofs.YtgdmlmhpineibaaGreat
set_option linter.unusedVariables false
set_option linter.unusedSimpArgs false
open Go.RowKit

section
variable {p m : Nat} {ml : List Int} {mv : Value}
end
end Go.Proofs.YtgdmlmhpineibaaGreat
namespace Go.Proofs.YtgdmlmhpineibaaGreat
set_option linter.unusedVariables false
set_option linter.unusedSimpArgs false
open Go.RowKit

section
variable {p m : Int} {mv : Value}
end
end Go.Proofs.YtgdmlmhpineibaaGreat
namespace Go.Proofs.YtgdmlmhpineibaaGreat
set_option linter.unusedVariables false
set_option linter.unusedSimpArgs false
open Go.RowKit

end Go.Proofs.YtgdmlmhpineibaaGreat
namespace Go.Proofs.YtgdmlmhpineibaaGreat
set_option linter.unusedVariables false
set_option linter.unusedSimpArgs false
open Go.RowKit

end Go.Proofs.YtgdmlmhpineibaaGreat
namespace Go.Proofs.YtgdmlmhpineibaaGreat
set_option linter.unusedVariables false
set_option linter.unusedSimpArgs false
open Go.RowKit

set_option maxRecDepth 100000 in
set_option maxHeartbeats 1000000 in
theorem rFew12_any (w : World) (p m : Int) (mv : Value) (n : Int) (rows : List (List Int)) (v : Value) (hv : MSl w v rows) (lim : Int) (hl0 : 0 ≤ lim) (hl1 : lim ≤ 100000) :
    Calls Tryz.prog 62 #[.agg #[.int .i64 p, .int .i64 m, mv, .int .i64 n, v], .int .i64 lim] w fun r w' => r = .returned (.bool (fewM 0 rows lim)) ∧ Ex w w' := by
  obtain ⟨a0, a1, a2, a3, a4, ea⟩ := boxC_facts w p m mv n v
  have HFW := hid_ (fun (w' : World) (h : Ex w w') => rFewM_any w' 0 rows v (hv.ex h) lim hl0 hl1)
  obtain ⟨za, zc, rfl, -, z2, -⟩ := hv.open
  have HE := hid_ ea
  clear hv ea z2
  obtain ⟨F, hF⟩ : ∃ F, fewM 0 rows lim = F := ⟨_, rfl⟩
  rw [hF] at HFW ⊢
  clear hF
  go_enter Tryz.func62, Tryz.ntmps62
  go_wp2_with fail
  generalize w.alloc (.cells #[.int .i64 p, .int .i64 m, mv, .int .i64 n, .slice za rows.length zc] 47) = w1 at *
  refine (HFW.out w1 HE.out).mono ?_
  rintro e w2 ⟨rfl, hx⟩
  have HX := hid_ (HE.out.trans hx)
  clear hx
  go_wp2_with fail
  go_ret
  exact ⟨rfl, HX.out⟩
end Go.Proofs.YtgdmlmhpineibaaGreat
namespace Go.Proofs.YtgdmlmhpineibaaGreat
set_option linter.unusedVariables false
set_option linter.unusedSimpArgs false
open Go.RowKit

end Go.Proofs.YtgdmlmhpineibaaGreat
