/- Walk of perm.Build. -/
import Derived.Test.YtgfdhclpffakfaaGreatZa22
namespace Go.Proofs.YtgfdhclpffakfaaGreat
set_option linter.unusedVariables false
set_option linter.unusedSimpArgs false
open Go.RowKit

/-- A chain: degree and levels. -/
structure Chn where
  deg : Int
  lev : List Lv
noncomputable def bldS (n : Int) (rows : List (List Int)) : Chn × Int := if gchk n rows ≠ 0 then (⟨0, []⟩, gchk n rows) else (⟨n, chnK n.toNat (rows.map fnL) n.toNat⟩, 0)
/-- What Build returns. -/
def BldR (n : Int) (rows : List (List Int)) (r : Ending) (w' : World) : Prop := ∃ v, r = .returned (.tuple #[.agg #[.int .i64 (bldS n rows).1.deg, v], .int .i64 (bldS n rows).2]) ∧ LSl w' v (bldS n rows).1.lev
theorem bldR_of {n : Int} {rows : List (List Int)} {d : Int} {L : List Lv} {e : Int} {v : Value} {w' : World} (h : bldS n rows = (⟨d, L⟩, e)) (hv : LSl w' v L) : BldR n rows (.returned (.tuple #[.agg #[.int .i64 d, v], .int .i64 e])) w' := ⟨v, by rw [h], by rw [h]; exact hv⟩
/-- A slice of at least two cells does not lie in the result's box: by what the box holds. -/
theorem off_box {w : World} {q : Nat} {z : Int} (h0 : w.cell? ⟨q, 0, none⟩ = some (.int .i64 z)) (h1 : w.cell? ⟨q, 1, none⟩ = some (.slice none 0 0)) (h2 : ∀ j, 2 ≤ j → w.cell? ⟨q, j, none⟩ = none) {v : Value} {n size : Nat} {xs : List Value} (h : Sl w v n size xs) (hl : 2 ≤ xs.length) (hx : xs[0]? ≠ some (.int .i64 z) ∨ xs[1]? ≠ some (.slice none 0 0)) : v.ownBlock ≠ some q := by
  intro e
  obtain ⟨k1, a, cap, rfl, _, _, k5⟩ := h
  have hn : 0 < n := by
    apply Classical.byContradiction
    intro hn
    have : n = 0 := by omega
    subst this
    omega
  obtain ⟨b, o, rfl, k6⟩ := k5 hn
  injection e with e
  have e : b = q := e
  subst e
  have x0 := k6 0 _ (List.getElem?_eq_getElem (by omega))
  have x1 := k6 1 _ (List.getElem?_eq_getElem (by omega))
  have ho : o = 0 := by
    apply Classical.byContradiction
    intro ho
    have := h2 (o + 1) (by omega)
    rw [x1] at this
    cases this
  subst ho
  rw [h0] at x0
  rw [h1] at x1
  injection x0 with x0
  injection x1 with x1
  rcases hx with hx | hx
  · exact hx (by rw [List.getElem?_eq_getElem (by omega), ← x0])
  · exact hx (by rw [List.getElem?_eq_getElem (by omega), ← x1])
theorem Sl.set2 {w : World} {v : Value} {n size : Nat} {xs : List Value} (h : Sl w v n size xs) {q : Nat} (hq : v.ownBlock ≠ some q) (u u' : Value) : Sl ((w.setCell ⟨q, 0, none⟩ u).setCell ⟨q, 1, none⟩ u') v n size xs := by
  obtain ⟨k1, a, cap, rfl, k3, k4, k5⟩ := h
  refine ⟨k1, a, cap, rfl, k3, k4, fun hn => ?_⟩
  obtain ⟨b, o, rfl, k6⟩ := k5 hn
  have hb : q ≠ b := fun e => hq (by rw [e]; rfl)
  refine ⟨b, o, rfl, fun j x hx => ?_⟩
  rw [World.cell?_setCell_other _ _ _ _ (by intro e; injection e with e; exact hb e), World.cell?_setCell_other _ _ _ _ (by intro e; injection e with e; exact hb e)]
  exact k6 j x hx
theorem LSl.set2 {w : World} {q : Nat} {z : Int} (h0 : w.cell? ⟨q, 0, none⟩ = some (.int .i64 z)) (h1 : w.cell? ⟨q, 1, none⟩ = some (.slice none 0 0)) (h2 : ∀ j, 2 ≤ j → w.cell? ⟨q, j, none⟩ = none) {v : Value} {L : List Lv} (h : LSl w v L)
    (hL : ∀ l ∈ L, 2 ≤ l.orb.length ∧ 2 ≤ l.reps.length ∧ ∀ r ∈ l.reps, 2 ≤ r.length) (u u' : Value) : LSl ((w.setCell ⟨q, 0, none⟩ u).setCell ⟨q, 1, none⟩ u') v L := by
  obtain ⟨os, k1, k2, k3⟩ := h
  have ints2 : ∀ {y : Value} {l : List Int}, ISl w y l → 2 ≤ l.length → ISl ((w.setCell ⟨q, 0, none⟩ u).setCell ⟨q, 1, none⟩ u') y l := fun {y l} hy hl =>
    Sl.set2 hy (off_box h0 h1 h2 hy (by rw [ints_length]; exact hl) (.inr (by
      unfold ints
      rw [List.getElem?_map]
      cases l[1]? with
      | none => simp
      | some x => simp))) u u'
  refine ⟨os, k1, ?_, fun i l o a c => ?_⟩
  · by_cases hn : 0 < L.length
    · refine Sl.set2 k2 (fun e => ?_) u u'
      obtain ⟨m1, a, cap, rfl, _, _, m5⟩ := k2
      obtain ⟨b, o, rfl, m6⟩ := m5 hn
      injection e with e
      have e : b = q := e
      subst e
      have hl3 := lvC_len L os k1
      have := m6 2 _ (List.getElem?_eq_getElem (by omega))
      rw [h2 (o + 2) (by omega)] at this
      cases this
    · obtain ⟨m1, a, cap, rfl, m3, m4, m5⟩ := k2
      exact ⟨m1, a, cap, rfl, m3, m4, fun h => absurd h hn⟩
  · obtain ⟨g1, vals, g2, g3⟩ := k3 i l o a c
    obtain ⟨b1, b2, b3⟩ := hL l (List.mem_of_getElem? a)
    refine ⟨ints2 g1 b1, vals, ?_, fun j r y hr hy => ints2 (g3 j r y hr hy) (b3 r (List.mem_of_getElem? hr))⟩
    have hvl : vals.length = l.reps.length := by have := g2.1; omega
    refine Sl.set2 g2 (off_box h0 h1 h2 g2 (by omega) (.inl fun e => ?_)) u u'
    have hr0 : l.reps[0]? = some (l.reps[0]'(by omega)) := List.getElem?_eq_getElem _
    obtain ⟨_, _, e2, _⟩ := (g3 0 _ _ hr0 e).open
    cases e2
theorem chnK_big {n : Nat} {S : List (Nat → Nat)} {m : Nat} {l : Lv} (h : l ∈ chnK n S m) : 2 ≤ l.orb.length ∧ 2 ≤ l.reps.length ∧ ∀ r ∈ l.reps, 2 ≤ r.length := by
  unfold chnK at h
  obtain ⟨h1, h2⟩ := List.mem_filter.1 h
  obtain ⟨b, _, rfl⟩ := List.mem_map.1 h1
  have h2 : 1 < (il' (orbM S b n)).length := of_decide_eq_true h2
  rw [il'_len] at h2
  have h3 := orbM_len S b n
  refine ⟨by show 2 ≤ (il' (orbM S b n)).length; rw [il'_len]; omega, by show 2 ≤ (repM n S b n).length; unfold repM; rw [List.length_map]; omega, fun r hr => ?_⟩
  have hr : r ∈ repM n S b n := hr
  unfold repM at hr
  obtain ⟨x, _, rfl⟩ := List.mem_map.1 hr
  rw [li_len]; omega
theorem newT_bd (n : Nat) : BdT n (newT n) 0 := fun c _ _ => by
  have := nilS_le n (newT n) c
  show 0 + _ ≤ _
  omega
set_option maxRecDepth 100000 in
set_option maxHeartbeats 4000000 in
theorem Build_any (w : World) (n : Int) (rows : List (List Int)) (v : Value) (hv : MSl w v rows) (hrl : rows.length ≤ 1000) :
    Calls Tryz.prog 19 #[.int .i64 n, v] w fun r w' => BldR n rows r w' ∧ Ex w w' := by
  have ea : Ex w (w.alloc (.cells #[.int .i64 0, .slice none 0 0] 24)) := (Ex.refl _).alloc _
  have q0 : (w.alloc (.cells #[.int .i64 0, .slice none 0 0] 24)).cell? ⟨w.heap.size, 0, none⟩ = some (.int .i64 0) := by simp
  have q1 : (w.alloc (.cells #[.int .i64 0, .slice none 0 0] 24)).cell? ⟨w.heap.size, 1, none⟩ = some (.slice none 0 0) := by simp
  have q2 : ∀ j, 2 ≤ j → (w.alloc (.cells #[.int .i64 0, .slice none 0 0] 24)).cell? ⟨w.heap.size, j, none⟩ = none := fun j hj => by
    obtain ⟨i, rfl⟩ : ∃ i, j = i + 2 := ⟨j - 2, by omega⟩
    simp
  have qf0 : (w.alloc (.cells #[.int .i64 0, .slice none 0 0] 24)).frozen? ⟨w.heap.size, 0, none⟩ = false := by simp
  have qf1 : (w.alloc (.cells #[.int .i64 0, .slice none 0 0] 24)).frozen? ⟨w.heap.size, 1, none⟩ = false := by simp
  have HV := hid_ hv
  have HG := hid_ (fun w1 (h : Ex w w1) => generators_any w1 n rows v (hv.ex h))
  obtain ⟨a, cap, rfl, _, s2, _⟩ := hv.open
  unfold maxLen at s2
  obtain ⟨e, he⟩ : ∃ e, gchk n rows = e := ⟨_, rfl⟩
  rw [he] at HG
  clear hv
  go_enter Tryz.func19, Tryz.ntmps19
  go_wp2_with fail
  obtain ⟨q, hq⟩ : ∃ q, w.heap.size = q := ⟨_, rfl⟩
  rw [hq] at q0 q1 qf0 qf1 q2
  try simp only [hq]
  have HQ := hid_ hq
  have HEA := hid_ ea
  clear hq
  generalize w.alloc (.cells #[.int .i64 0, .slice none 0 0] 24) = wR at *
  refine (HG.out wR ea).mono ?_
  rintro e' w1 ⟨rfl, hx1⟩
  have HX1 := hid_ hx1
  have hqlt := World.block_lt_of_cell? _ _ q0
  have Q2 := hid_ (show ∀ j, 2 ≤ j → w1.cell? ⟨q, j, none⟩ = none from fun j hj => (Below.cell hx1 (show (⟨q, j, none⟩ : Addr).block < wR.heap.size from hqlt)).trans (q2 j hj))
  have q0' := hx1.frz q0 qf0
  have q1' := hx1.frz q1 qf1
  have q0 := hx1.cell q0
  have q1 := hx1.cell q1
  clear hx1 qf0 qf1 ea HG q2 hqlt
  by_cases h0 : e = 0
  · subst h0
    obtain ⟨N, rfl, hN1, hN2, S, hSr, hS⟩ := gchk_ok he
    have HP := hid_ (show bldS N rows = (⟨N, chnK N S N⟩, 0) from by unfold bldS; rw [he, if_neg (by decide), hSr, map_fnL hS]; rfl)
    have HS := hid_ hS
    have HSR := hid_ hSr
    have hSl : S.length = rows.length := by rw [hSr]; simp
    have HSL := hid_ hSl
    have HNT := hid_ (newTower_any w1 N hN1 hN2)
    have Q0 := hid_ q0
    have Q1 := hid_ q1
    have QF0 := hid_ q0'
    have QF1 := hid_ q1'
    clear he hS hSr hSl q0 q1 q0' q1'
    go_wp2_with (go_at_call 46; refine HNT.out.mono ?_; rintro e w2 ⟨tb, rb, gb, rr, mb, rfl, htw, hx2⟩; have HTW := hid_ htw; have HX2 := hid_ hx2; clear htw hx2)
    have HB0 := hid_ (BldT.start (n := N) (S := S))
    have HD0 := hid_ (newT_bd N)
    go_loopw [21] (fun k' wr => ∃ (k : Nat) (mbc : List Nat) (tc : Tw), k ≤ rows.length ∧ k' = .int .i64 k ∧ Hid (TwR wr w1.heap.size N tb rb gb rr mbc tc) ∧ Hid (BldT N S tc k) ∧ Hid (BdT N tc 0) ∧ Hid (Ex w1 wr)) (fun k' _ => rows.length - (intOf k').toNat)
    case atStart => exact ⟨0, mb, newT N, by omega, rfl, HTW, HB0, HD0, HX2⟩
    case round =>
      clear HTW HB0 HD0 HX2
      obtain ⟨k, mbc, tc, hk, rfl, htw, hbl, hbd, hx⟩ := hrel
      by_cases hkn : k < rows.length
      · obtain ⟨s, hs⟩ : ∃ s, S[k]? = some s := ⟨_, List.getElem?_eq_getElem (by rw [HSL.out]; exact hkn)⟩
        have hrk : rows[k]? = some (li N s) := by rw [HSR.out, List.getElem?_map, hs]; rfl
        have hsP := HS.out s (List.mem_of_getElem? hs)
        obtain ⟨_, _, e1, _, _, h3⟩ := HV.out.open
        injection e1 with e1 e2 e3
        subst e1 e3
        obtain ⟨zb, zo, rfl, hzc⟩ := h3 (by omega)
        obtain ⟨u, d1, hu⟩ := hzc k _ hrk
        have EXW := hid_ (HEA.out.trans (HX1.out.trans hx.out))
        have d1 := EXW.out.cell d1
        obtain ⟨ua, uc, rfl, _, _, _⟩ := isl_li hu
        obtain ⟨pb, po, rfl, hpb, _⟩ := isl_li_at hu (by omega)
        have HPV := hid_ (PV.of (mb := mbc) (hu.ex EXW.out) hN1 fun B eB hm => by
          injection eB with eB
          have eB : pb = B := eB
          subst eB
          obtain ⟨gv, V, hM⟩ := htw.out
          have h5 := (hM.lo pb hm).1
          have h6 := (HEA.out.trans HX1.out).size
          omega)
        have i1 : (0 : Int) ≤ (k : Int) := by omega
        have i2 : (k : Int) < (rows.length : Int) := by omega
        have HIN := hid_ (ins_all (base := w1.heap.size) (tb := tb) (rb := rb) (gb := gb) (rr := rr) hN1 hN2 (muT N tc 0) wr mbc tc s _ 0 (fun _ => Nat.le_refl _) (Nat.zero_le _) htw.out hbl.out.good (fun c _ hc => hbl.out.comp c hc) HPV.out hsP (fun i hi => by omega) hx.out.size hbd.out)
        have HLO := hid_ (show ∀ B ∈ mbc, w1.heap.size ≤ B from by obtain ⟨gv, V, hM⟩ := htw.out; exact fun B hB => (hM.lo B hB).1)
        have HBL := hid_ hbl.out
        have HSK := hid_ hs
        clear hs hrk hsP h3 hzc hu htw hbl hbd
        go_wp2_with (go_at_call 47; refine HIN.out.mono ?_; rintro e w3 ⟨⟨zz, rfl⟩, mb3, t3, htw3, hin3, hmx3, hbd3⟩; have HTW3 := hid_ htw3; have HIN3 := hid_ hin3; have HX3 := hid_ (hmx3.ex hx.out HLO.out); have HBD3 := hid_ hbd3; clear htw3 hin3 hmx3 hbd3)
        have HB3 := hid_ (HBL.out.step HS.out HSK.out HIN3.out)
        go_roundw
        case rel => exact ⟨k + 1, mb3, t3, by omega, by go_num, HTW3, HB3, HBD3, HX3⟩
        case measure => simp [intOf]; omega
      · obtain rfl : k = rows.length := by omega
        have HCH := hid_ (chain_any wr htw.out hbl.out (by rw [HSL.out]; exact Nat.le_refl _) HS.out hN1 hN2)
        have q0 := hx.out.cell Q0.out
        have q1 := hx.out.cell Q1.out
        have qf0 := hx.out.frz Q0.out QF0.out
        have qf1 := hx.out.frz Q1.out QF1.out
        have HXW := hid_ hx.out
        clear htw hbl hbd hx
        go_wp2_with (go_at_call 48; refine HCH.out.mono ?_; rintro e w4 ⟨lv, rfl, hlv, hx4⟩; obtain ⟨la, lc, hle, _, _, _⟩ := hlv.open; subst hle; have qf0 := hx4.frz q0 qf0; have qf1 := hx4.frz q1 qf1; have q0 := hx4.cell q0; have q1 := hx4.cell q1; have HLV := hid_ hlv; have HX4 := hid_ hx4; clear hlv hx4)
        have HXF := hid_ (HXW.out.trans HX4.out)
        have HEX := hid_ (HEA.out.trans (HX1.out.trans HXF.out))
        have hqlt := World.block_lt_of_cell? _ _ Q0.out
        have HL2 := hid_ (HLV.out.set2 q0 q1 (fun j hj => (Below.cell HXF.out (show (⟨q, j, none⟩ : Addr).block < w1.heap.size from hqlt)).trans (Q2.out j hj)) (fun l hl => chnK_big hl) (.int .i64 N) (.slice la (chnK N S N).length lc))
        exact bodyPost_ret (v := .tuple #[.agg #[.int .i64 N, .slice la (chnK N S N).length lc], .int .i64 0]) (by simp [results, Tryz.results19, go_sem, q0, q1]) rfl ⟨bldR_of HP.out HL2.out, (HEX.out.setCell (p := ⟨q, 0, none⟩) (Nat.le_of_eq HQ.out) _).setCell (p := ⟨q, 1, none⟩) (Nat.le_of_eq HQ.out) _⟩
  · have HP := hid_ (show bldS n rows = (⟨0, []⟩, e) from by unfold bldS; rw [he, if_pos h0])
    have hb : (e != 0) = true := by simpa using h0
    clear h0 he
    go_wp2_with fail
    exact bodyPost_ret (v := .tuple #[.agg #[.int .i64 0, .slice none 0 0], .int .i64 e]) (by simp [results, Tryz.results19, go_sem, q0, q1]) rfl ⟨bldR_of HP.out (LSl.nil _), ((HEA.out.trans HX1.out).setCell (p := ⟨q, 0, none⟩) (Nat.le_of_eq HQ.out) _).setCell (p := ⟨q, 1, none⟩) (Nat.le_of_eq HQ.out) _⟩
end Go.Proofs.YtgfdhclpffakfaaGreat
