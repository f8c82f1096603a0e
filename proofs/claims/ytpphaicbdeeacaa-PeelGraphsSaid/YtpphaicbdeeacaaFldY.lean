/- Walks of the reference of the package field: irreducible, Check. -/
import Derived.Test.YtpphaicbdeeacaaFldX
namespace Go.Proofs.Ytpphaicbdeeacaa
set_option linter.unusedVariables false
set_option linter.unusedSimpArgs false
open Go.RowKit

def irB (p : Nat) (ml : List Int) : Bool := (List.range (ml.length / 2)).all fun d => (List.range (p ^ (d + 1))).all fun v => !dvB p (d + 1) (dig p (d + 1) v) ml
theorem irB_no {p : Nat} {ml : List Int} {d v : Nat} (h1 : 2 * (d + 1) ≤ ml.length) (h2 : v < p ^ (d + 1)) (h3 : dvB p (d + 1) (dig p (d + 1) v) ml = true) : irB p ml = false := by
  unfold irB
  rw [List.all_eq_false]
  refine ⟨d, List.mem_range.2 (by omega), ?_⟩
  rw [Bool.not_eq_true, List.all_eq_false]
  exact ⟨v, List.mem_range.2 h2, by simp [h3]⟩
theorem irB_yes {p : Nat} {ml : List Int} (h : ∀ d v, 2 * (d + 1) ≤ ml.length → v < p ^ (d + 1) → dvB p (d + 1) (dig p (d + 1) v) ml = false) : irB p ml = true := by
  unfold irB
  rw [List.all_eq_true]
  intro d hd
  rw [List.all_eq_true]
  intro v hv
  rw [h d v (by have := List.mem_range.1 hd; omega) (List.mem_range.1 hv)]; rfl

set_option maxRecDepth 100000 in
set_option maxHeartbeats 2000000 in
theorem irreducible_any (p : Nat) (ml : List Int) (mv : Value) (w : World) (hp : 2 ≤ p) (hp' : p ≤ 256) (hm8 : ml.length ≤ 8) (hq : p ^ ml.length ≤ 256) (hmv : ISl w mv ml) (hmr : ∀ x ∈ ml, 0 ≤ x ∧ x < p) :
    Calls Try.prog 97 #[mv, .int .i64 p] w fun r w' => r = .returned (.bool (irB p ml)) ∧ Ex w w' := by
  have HMV := hid_ hmv
  have HDV := hid_ (fun d v lv w' h1 h2 h3 h4 => divides_any p d (dig p d v) ml lv mv w' hp hp' h1 h2 hm8 h3 (dig_rng (by omega) d v) h4 hmr)
  have HNO := hid_ (fun d v h1 h2 h3 => irB_no (p := p) (ml := ml) (d := d) (v := v) h1 h2 h3)
  have HYES := hid_ (fun h => irB_yes (p := p) (ml := ml) h)
  have HPL := hid_ (show ∀ d, d ≤ ml.length → p ^ d ≤ 256 from fun d hd => Nat.le_trans (Nat.pow_le_pow_right (by omega) hd) hq)
  have HPS := hid_ (fun d => Nat.pow_succ p d)
  obtain ⟨ma, mc, rfl, m1, m2, m3⟩ := hmv.open
  unfold maxLen at m2
  clear hmv hmr m3 hq
  go_enter Try.func97, Try.ntmps97
  go_wp2_with fail
  go_loopw [5, 6, 7] (fun c' d' _ wr => ∃ d : Nat, 2 * d ≤ ml.length ∧ d' = .int .i64 ((d : Int) + 1) ∧ c' = .int .i64 ((p ^ d : Nat) : Int) ∧ Hid (∀ e v, e < d → v < p ^ (e + 1) → dvB p (e + 1) (dig p (e + 1) v) ml = false) ∧ Ex w wr) (fun _ d' _ _ => 10 - (intOf d').toNat)
  case atStart => exact ⟨0, by omega, rfl, by simp, hid_ (fun e v h => by omega), Ex.refl _⟩
  case round =>
    obtain ⟨d, hd, rfl, rfl, hall, hx⟩ := hrel
    have hpd := HPL.out d (by omega)
    have hpp : 1 ≤ p ^ d := Nat.pow_pos (by omega)
    have HP1 := hid_ (HPS.out d)
    by_cases hlt : 2 * (d + 1) ≤ ml.length
    · have hpd1 := HPL.out (d + 1) (by omega)
      rw [HP1.out] at hpd1
      have hcast : ((p ^ d : Nat) : Int) * (p : Int) = ((p ^ d * p : Nat) : Int) := by simp
      have hm1 : 0 ≤ ((p ^ d : Nat) : Int) * (p : Int) := by rw [hcast]; omega
      have hm2 : ((p ^ d : Nat) : Int) * (p : Int) ≤ 256 := by rw [hcast]; omega
      obtain ⟨n, hn⟩ : ∃ n, p ^ d * p = n := ⟨_, rfl⟩
      rw [hn] at hcast hpd1
      have HC := hid_ hcast
      have hl1 : 2 * ((d : Int) + 1) ≤ (ml.length : Int) := by omega
      have HPE := hid_ (show p ^ (d + 1) = n by rw [HP1.out, hn])
      clear hcast hn HP1
      generalize p ^ d = pd at *
      obtain ⟨wo, rfl⟩ : ∃ wo : World, wo = wr := ⟨_, rfl⟩
      go_wp2_with fail
      rw [HC.out]
      go_loopw [7] (fun v' wr => ∃ v : Nat, v ≤ n ∧ v' = .int .i64 v ∧ Hid (∀ u, u < v → dvB p (d + 1) (dig p (d + 1) u) ml = false) ∧ Ex w wr) (fun v' _ => n - (intOf v').toNat)
      case atStart => exact ⟨0, by omega, rfl, hid_ (fun u h => by omega), hx⟩
      case round =>
        clear hx
        obtain ⟨v, hv, rfl, hal2, hx⟩ := hrel
        by_cases hlv : v < n
        · have HRD := hid_ (fun w' => by
            have h := rdigits_any v p (d + 1) w' (by omega) (by omega) (by omega) (by omega)
            rw [show ((d + 1 : Nat) : Int) = (d : Int) + 1 by omega] at h
            exact h)
          have hlv' : (v : Int) < (n : Int) := by omega
          go_wp2_with fail
          (with_reducible refine (HRD.out _).mono ?_)
          rintro e w2 ⟨lv, rfl, ⟨g, rfl, hg1, hg2⟩, hx2⟩
          go_wp2_with fail
          refine (HDV.out (d + 1) v _ _ (by omega) (by omega) hg2.isl (HMV.out.ex (hx.trans hx2))).mono ?_
          rintro e w3 ⟨rfl, hx3⟩
          by_cases hdv : dvB p (d + 1) (dig p (d + 1) v) ml = true
          · have HF := hid_ (HNO.out d v hlt (by rw [HPE.out]; exact hlv) hdv)
            rw [hdv]
            clear hdv
            go_wp2_with fail
            go_ret
            exact ⟨ret_bool HF.out.symm, (hx.trans hx2).trans hx3⟩
          · have hdv' : dvB p (d + 1) (dig p (d + 1) v) ml = false := by simpa using hdv
            rw [hdv']
            have HA := hid_ (show ∀ u, u < v + 1 → dvB p (d + 1) (dig p (d + 1) u) ml = false from fun u hu => by
              by_cases e : u = v
              · subst e; exact hdv'
              · exact hal2.out u (by omega))
            clear hdv hdv'
            go_wp2_with fail
            go_roundw
            case rel => exact ⟨v + 1, by omega, by go_num, HA, (hx.trans hx2).trans hx3⟩
            case measure => simp [intOf]; omega
        · have hlv' : (n : Int) ≤ (v : Int) := by omega
          have HA := hid_ (show ∀ e u, e < d + 1 → u < p ^ (e + 1) → dvB p (e + 1) (dig p (e + 1) u) ml = false from fun e u he hu => by
            by_cases h : e = d
            · subst h; exact hal2.out u (by rw [HPE.out] at hu; omega)
            · exact hall.out e u (by omega) hu)
          go_wp2_with fail
          go_roundw
          case rel => exact ⟨d + 1, hlt, by go_num, by rw [HPE.out], HA, hx⟩
          case measure => simp [intOf]; omega
    · have HF := hid_ (HYES.out fun e v h1 h2 => hall.out e v (by omega) h2)
      have hl1 : ¬ 2 * ((d : Int) + 1) ≤ (ml.length : Int) := by omega
      generalize p ^ d = pd at *
      go_wp2_with fail
      go_ret
      exact ⟨ret_bool HF.out.symm, hx⟩

/-- What the reference's Check says. -/
def chkS (p m : Int) (ml : List Int) : Int := if (shB p m ml && (decide (m = 1) || irB p.toNat ml)) = true then 0 else 1
theorem chk_bad {p m : Int} {ml : List Int} (h : shB p m ml = false) : chkS p m ml = 1 := by unfold chkS; rw [h]; rfl

set_option maxRecDepth 100000 in
set_option maxHeartbeats 2000000 in
theorem rCheck_any (p m : Int) (ml : List Int) (mv : Value) (w : World) (hmv : ISl w mv ml) :
    Calls Try.prog 78 #[.agg #[.int .i64 p, .int .i64 m, mv]] w fun r w' => r = .returned (.int .i64 (chkS p m ml)) ∧ Ex w w' := by
  obtain ⟨d0, d1, d2, e0, _⟩ := box_facts w p m mv
  have HSH := hid_ (show shB p m ml = (decide (ordS p m ≠ 0) && (prB p.toNat && if m = 1 then ml.length == 0 else ml.length == m.toNat && ml.all fun x => decide (0 ≤ x) && decide (x < p))) from rfl)
  have HMV := hid_ hmv
  obtain ⟨ma, mc, rfl, m1, m2, m3⟩ := (hmv.ex e0).open
  have M3 := hid_ m3
  have hor := fun w => rOrder_any p m (.slice ma ml.length mc) w
  have HBAD := hid_ (fun h => chk_bad (p := p) (m := m) (ml := ml) h)
  unfold maxLen at m2
  clear hmv m3
  have D0 := hid_ d0
  have D1 := hid_ d1
  have D2 := hid_ d2
  clear d0 d1 d2
  by_cases ho : ordS p m = 0
  · have HC := hid_ (HBAD.out (by rw [HSH.out, ho]; rfl))
    rw [ho] at hor
    have HOR := hid_ hor
    clear ho hor
    go_enter Try.func78, Try.ntmps78
    have d0 := D0.out
    have d1 := D1.out
    have d2 := D2.out
    go_wp2_with fail
    generalize w.alloc (.cells #[.int .i64 p, .int .i64 m, .slice ma ml.length mc] 24) = w1 at *
    clear D0 D1 D2
    refine (HOR.out _).mono ?_
    rintro e w2 ⟨rfl, hx2⟩
    have r0 := hx2.cell d0
    have r1 := hx2.cell d1
    have r2 := hx2.cell d2
    go_wp2_with fail
    go_ret
    exact ⟨ret_int HC.out.symm, e0.trans hx2⟩
  · obtain ⟨pn, mn, rfl, rfl, p2, q1, q8, qq, hoe⟩ := ordS_ne ho
    have hpw : 1 ≤ pn ^ mn := Nat.pow_pos (by omega)
    have hp256 : pn ≤ 256 := by
      have h1 : pn ^ 1 ≤ pn ^ mn := Nat.pow_le_pow_right (by omega) q1
      rw [Nat.pow_one] at h1; omega
    have hb0 : (((pn ^ mn : Nat) : Int) == 0) = false := by rw [beq_eq_false_iff_ne]; omega
    have HSH2 := hid_ (show shB pn mn ml = (prB pn && if (mn : Int) = 1 then ml.length == 0 else ml.length == mn && ml.all fun x => decide (0 ≤ x) && decide (x < pn)) by
      rw [HSH.out, decide_eq_true ho]; simp)
    have hip := fun w => rprime_any pn w p2 hp256
    have HQQ := hid_ qq
    have HQP := hid_ (show ∀ n, n = mn → pn ^ n ≤ 256 from fun n h => by rw [h]; exact qq)
    rw [hoe] at hor
    have HOR := hid_ hor
    clear hor
    generalize pn ^ mn = qn at *
    clear ho hoe HSH
    by_cases hpr : prB pn = true
    · rw [hpr] at HSH2 hip
      have HIP := hid_ hip
      clear hip hpr
      by_cases hm1 : mn = 1
      · have hm1' : ((mn : Int) == 1) = true := by simp; omega
        by_cases hl : ml.length = 0
        · have HC := hid_ (show chkS pn mn ml = 0 by
            unfold chkS
            rw [HSH2.out, if_pos (show (mn : Int) = 1 by omega), hl, decide_eq_true (show (mn : Int) = 1 by omega)]; rfl)
          have hl' : ((ml.length : Int) != 0) = false := by rw [bne_eq_false_iff_eq]; omega
          have hl'' : ((ml.length : Int) == 0) = true := by rw [beq_iff_eq]; omega
          clear hm1 HSH2 hl
          go_enter Try.func78, Try.ntmps78
          have d0 := D0.out
          have d1 := D1.out
          have d2 := D2.out
          go_wp2_with fail
          generalize w.alloc (.cells #[.int .i64 pn, .int .i64 mn, .slice ma ml.length mc] 24) = w1 at *
          clear D0 D1 D2
          refine (HOR.out _).mono ?_
          rintro e w2 ⟨rfl, hx2⟩
          have r0 := hx2.cell d0
          have r1 := hx2.cell d1
          have r2 := hx2.cell d2
          go_wp2_with fail
          refine (HIP.out _).mono ?_
          rintro e w3 ⟨rfl, rfl⟩
          go_wp2_with fail
          go_ret
          exact ⟨ret_int HC.out.symm, e0.trans hx2⟩
        · have HC := hid_ (HBAD.out (by rw [HSH2.out, if_pos (show (mn : Int) = 1 by omega), Bool.true_and, beq_eq_false_iff_ne]; exact hl))
          have hl' : ((ml.length : Int) != 0) = true := by rw [bne_iff_ne]; omega
          have hl'' : ((ml.length : Int) == 0) = false := by rw [beq_eq_false_iff_ne]; omega
          clear hm1 HSH2 hl
          go_enter Try.func78, Try.ntmps78
          have d0 := D0.out
          have d1 := D1.out
          have d2 := D2.out
          go_wp2_with fail
          generalize w.alloc (.cells #[.int .i64 pn, .int .i64 mn, .slice ma ml.length mc] 24) = w1 at *
          clear D0 D1 D2
          refine (HOR.out _).mono ?_
          rintro e w2 ⟨rfl, hx2⟩
          have r0 := hx2.cell d0
          have r1 := hx2.cell d1
          have r2 := hx2.cell d2
          go_wp2_with fail
          refine (HIP.out _).mono ?_
          rintro e w3 ⟨rfl, rfl⟩
          go_wp2_with fail
          go_ret
          exact ⟨ret_int HC.out.symm, e0.trans hx2⟩
      · have hm1' : ((mn : Int) == 1) = false := by simp; omega
        have HR := hid_ (show shB pn mn ml = (ml.length == mn && ml.all fun x => decide (0 ≤ x) && decide (x < pn)) by rw [HSH2.out, if_neg (by omega), Bool.true_and])
        have HM1 := hid_ hm1
        clear hm1 HSH2
        by_cases hlen : ml.length = mn
        · have hl1 : ((ml.length : Int) == (mn : Int)) = true := by rw [beq_iff_eq]; omega
          have hl2 : ((ml.length : Int) != (mn : Int)) = false := by rw [bne_eq_false_iff_eq]; omega
          have HR2 := hid_ (show shB pn mn ml = ml.all fun x => decide (0 ≤ x) && decide (x < pn) by rw [HR.out, show (ml.length == mn) = true by simp [hlen], Bool.true_and])
          have HLEN := hid_ hlen
          clear hlen HR
          go_enter Try.func78, Try.ntmps78
          have d0 := D0.out
          have d1 := D1.out
          have d2 := D2.out
          go_wp2_with fail
          generalize w.alloc (.cells #[.int .i64 pn, .int .i64 mn, .slice ma ml.length mc] 24) = w1 at *
          clear D0 D1 D2
          refine (HOR.out _).mono ?_
          rintro e w2 ⟨rfl, hx2⟩
          have r0 := hx2.cell d0
          have r1 := hx2.cell d1
          have r2 := hx2.cell d2
          go_wp2_with fail
          refine (HIP.out _).mono ?_
          rintro e w3 ⟨rfl, rfl⟩
          go_wp2_with fail
          clear r0 r1 r2
          go_loopw [3] (fun j' wr => ∃ j : Nat, j ≤ ml.length ∧ j' = .int .i64 j ∧ Hid (∀ i y, i < j → ml[i]? = some y → 0 ≤ y ∧ y < pn) ∧ Ex w1 wr) (fun j' _ => ml.length - (intOf j').toNat)
          case atStart => exact ⟨0, by omega, rfl, hid_ (fun i y h => by omega), hx2⟩
          case round =>
            clear hx2
            obtain ⟨j, hj, rfl, hall, hx⟩ := hrel
            have r0 := hx.cell d0
            have r1 := hx.cell d1
            have r2 := hx.cell d2
            by_cases hlt : j < ml.length
            · obtain ⟨y, hy⟩ : ∃ y, ml[j]? = some y := ⟨_, List.getElem?_eq_getElem hlt⟩
              obtain ⟨b, o, rfl, hc⟩ := M3.out (by omega)
              have c1 := hx.cell (hc j y hy)
              have hltm : (j : Int) < (mn : Int) := by have := HLEN.out; omega
              by_cases hy0 : 0 ≤ y ∧ y < pn
              · have HA := hid_ (show ∀ i z, i < j + 1 → ml[i]? = some z → 0 ≤ z ∧ z < pn from fun i z hi hz => by
                  by_cases e : i = j
                  · subst e; rw [hy] at hz; injection hz with hz; subst hz; exact hy0
                  · exact hall.out i z (by omega) hz)
                obtain ⟨y0, y1⟩ := hy0
                have b1 : decide (y < 0) = false := by simpa using y0
                have b2 : decide ((pn : Int) ≤ y) = false := by simpa using y1
                clear hc hy
                go_wp2_with fail
                go_quiet (fail)
                go_wp2_with fail
                go_roundw
                case rel => exact ⟨j + 1, by omega, by go_num, HA, hx.drewN _⟩
                case measure => simp [intOf]; omega
              · have HF := hid_ (HBAD.out (by
                  rw [HR2.out, List.all_eq_false]
                  refine ⟨y, List.mem_of_getElem? hy, ?_⟩
                  simpa using hy0))
                have hy1 : y < 0 ∨ (0 ≤ y ∧ (pn : Int) ≤ y) := by omega
                clear hc hy hy0
                rcases hy1 with hy1 | ⟨hy1, hy2⟩
                · have b1 : decide (y < 0) = true := by simpa using hy1
                  go_wp2_with fail
                  go_quiet (fail)
                  go_wp2_with fail
                  go_ret
                  exact ⟨ret_int HF.out.symm, e0.trans (hx.drewN _)⟩
                · have b1 : decide (y < 0) = false := by simpa using hy1
                  have b2 : decide ((pn : Int) ≤ y) = true := by simpa using hy2
                  go_wp2_with fail
                  go_quiet (fail)
                  go_wp2_with fail
                  go_ret
                  exact ⟨ret_int HF.out.symm, e0.trans (hx.drewN _)⟩
            · obtain rfl : j = ml.length := by omega
              have hAll : ∀ y ∈ ml, 0 ≤ y ∧ y < pn := fun y hy => by
                obtain ⟨i, hi, e⟩ := List.getElem_of_mem hy
                exact hall.out i y hi (by rw [List.getElem?_eq_getElem hi, e])
              have HT := hid_ (show chkS pn mn ml = if irB pn ml = true then 0 else 1 by
                unfold chkS
                rw [HR2.out, show (ml.all fun x => decide (0 ≤ x) && decide (x < (pn : Int))) = true by
                  rw [List.all_eq_true]; intro y hy; simp [hAll y hy], decide_eq_false (show ¬ (mn : Int) = 1 by have := HM1.out; omega)]
                simp)
              have HIR := hid_ (fun (w' : World) (h : ISl w' (.slice ma ml.length mc) ml) => irreducible_any pn ml (.slice ma ml.length mc) w' p2 hp256 (by have := HLEN.out; omega) (HQP.out _ HLEN.out) h hAll)
              have hltm : ¬ ((ml.length : Int) < (mn : Int)) := by have := HLEN.out; omega
              clear hAll
              go_wp2_with fail
              refine (HIR.out _ (HMV.out.ex (e0.trans hx))).mono ?_
              rintro e w4 ⟨rfl, hx4⟩
              by_cases hir : irB pn ml = true
              · have HC := hid_ (show chkS pn mn ml = 0 by rw [HT.out, if_pos hir])
                rw [hir]
                clear hir
                go_wp2_with fail
                go_ret
                exact ⟨ret_int HC.out.symm, (e0.trans hx).trans hx4⟩
              · have HC := hid_ (show chkS pn mn ml = 1 by rw [HT.out, if_neg hir])
                have hir' : irB pn ml = false := by simpa using hir
                rw [hir']
                clear hir hir'
                go_wp2_with fail
                go_ret
                exact ⟨ret_int HC.out.symm, (e0.trans hx).trans hx4⟩
        · have hl1 : ((ml.length : Int) == (mn : Int)) = false := by rw [beq_eq_false_iff_ne]; omega
          have hl2 : ((ml.length : Int) != (mn : Int)) = true := by rw [bne_iff_ne]; omega
          have HC := hid_ (HBAD.out (by rw [HR.out, show (ml.length == mn) = false by simp [hlen], Bool.false_and]))
          clear hlen HR
          go_enter Try.func78, Try.ntmps78
          have d0 := D0.out
          have d1 := D1.out
          have d2 := D2.out
          go_wp2_with fail
          generalize w.alloc (.cells #[.int .i64 pn, .int .i64 mn, .slice ma ml.length mc] 24) = w1 at *
          clear D0 D1 D2
          refine (HOR.out _).mono ?_
          rintro e w2 ⟨rfl, hx2⟩
          have r0 := hx2.cell d0
          have r1 := hx2.cell d1
          have r2 := hx2.cell d2
          go_wp2_with fail
          refine (HIP.out _).mono ?_
          rintro e w3 ⟨rfl, rfl⟩
          go_wp2_with fail
          go_ret
          exact ⟨ret_int HC.out.symm, e0.trans hx2⟩
    · have hpr' : prB pn = false := by simpa using hpr
      have HC := hid_ (HBAD.out (by rw [HSH2.out, hpr']; rfl))
      rw [hpr'] at hip
      have HIP := hid_ hip
      clear hip hpr hpr' HSH2
      go_enter Try.func78, Try.ntmps78
      have d0 := D0.out
      have d1 := D1.out
      have d2 := D2.out
      go_wp2_with fail
      generalize w.alloc (.cells #[.int .i64 pn, .int .i64 mn, .slice ma ml.length mc] 24) = w1 at *
      clear D0 D1 D2
      refine (HOR.out _).mono ?_
      rintro e w2 ⟨rfl, hx2⟩
      have r0 := hx2.cell d0
      have r1 := hx2.cell d1
      have r2 := hx2.cell d2
      go_wp2_with fail
      refine (HIP.out _).mono ?_
      rintro e w3 ⟨rfl, rfl⟩
      go_wp2_with fail
      go_ret
      exact ⟨ret_int HC.out.symm, e0.trans hx2⟩
end Go.Proofs.Ytpphaicbdeeacaa
