/- Walks of the references: Few, Rising, Check of a graph, Few of a graph. -/
/- Walks of the references: Check of a matrix; few. -/
import Derived.Test.YtpphaicbdeeacaaPeelP
import Derived.Test.YtpphaicbdeeacaaMatC
import Derived.Test.YtpphaicbdeeacaaPeelL
namespace Go.Proofs.Ytpphaicbdeeacaa
set_option linter.unusedVariables false
set_option linter.unusedSimpArgs false
open Go.RowKit

theorem boxM2_facts (w : World) (c : Int) (v : Value) : (w.alloc (.cells #[.int .i64 c, v] 27)).cell? ⟨w.heap.size, 0, none⟩ = some (.int .i64 c) ∧
    (w.alloc (.cells #[.int .i64 c, v] 27)).cell? ⟨w.heap.size, 1, none⟩ = some v ∧ Ex w (w.alloc (.cells #[.int .i64 c, v] 27)) :=
  ⟨by simp, by simp, (Ex.refl _).alloc _⟩

set_option maxRecDepth 100000 in
set_option maxHeartbeats 1000000 in
theorem Few_any (w : World) (cols : Int) (rows : List (List Int)) (v : Value) (hv : MSl w v rows) (lim : Int) (hl0 : 0 ≤ lim) (hl1 : lim ≤ 1000) :
    Calls Try.prog 13 #[.agg #[.int .i64 cols, v], .int .i64 lim] w fun r w' => ∃ b, r = .returned (.bool b) ∧ Ex w w' := by
  obtain ⟨d0, d1, e0⟩ := boxM2_facts w cols v
  obtain ⟨za, zc, rfl, z1, z2, z3⟩ := (hv.ex e0).open
  have Z3 := hid_ z3
  unfold maxLen at z2
  clear hv z3
  by_cases h1 : 260 < cols
  · go_enter Try.func13, Try.ntmps13
    go_wp2_with fail
    go_ret
    exact ⟨_, rfl, e0⟩
  · have h1' : cols ≤ 260 := by omega
    clear h1
    by_cases h2 : lim < (rows.length : Int)
    · go_enter Try.func13, Try.ntmps13
      go_wp2_with fail
      go_ret
      exact ⟨_, rfl, e0⟩
    · have h2' : (rows.length : Int) ≤ lim := by omega
      have b1 : decide (260 < cols) = false := by simp; omega
      have b2 : decide (lim < (rows.length : Int)) = false := by simp; omega
      clear h2
      go_enter Try.func13, Try.ntmps13
      go_wp2_with fail
      generalize w.alloc (.cells #[.int .i64 cols, .slice za rows.length zc] 27) = w1 at *
      go_loopw [5, 6] (fun l' i' wr => ∃ (i : Nat) (l : Int), i ≤ rows.length ∧ i' = .int .i64 i ∧ l' = .int .i64 l ∧ 0 ≤ l ∧ l ≤ 1000 ∧ wr = w1) (fun _ i' _ => rows.length - (intOf i').toNat)
      case atStart => exact ⟨0, _, by omega, rfl, rfl, by omega, by omega, rfl⟩
      case round =>
        obtain ⟨i, l, hi, rfl, rfl, l1, l2, rfl⟩ := hrel
        by_cases hlt : i < rows.length
        · obtain ⟨r, hr⟩ : ∃ r, rows[i]? = some r := ⟨_, List.getElem?_eq_getElem hlt⟩
          obtain ⟨bb, o, rfl, hc⟩ := Z3.out (by omega)
          obtain ⟨u, c1, hu⟩ := hc i r hr
          obtain ⟨ua, uc, rfl, u1, u2, u3⟩ := hu.open
          unfold maxLen at u2
          clear hc hu u3 hr
          by_cases h3 : l < (r.length : Int)
          · go_wp2_with fail
            go_ret
            exact ⟨_, rfl, e0⟩
          · have h3' : (r.length : Int) ≤ l := by omega
            clear h3
            go_wp2_with fail
            go_roundw
            case rel => exact ⟨i + 1, _, by omega, by go_num, (by first | rfl | trivial), by omega, by omega, (by first | rfl | trivial)⟩
            case measure => simp [intOf]; omega
        · obtain rfl : i = rows.length := by omega
          go_wp2_with fail
          go_ret
          exact ⟨_, rfl, e0⟩
end Go.Proofs.Ytpphaicbdeeacaa
namespace Go.Proofs.Ytpphaicbdeeacaa
set_option linter.unusedVariables false
set_option linter.unusedSimpArgs false
open Go.RowKit

set_option maxRecDepth 100000 in
set_option maxHeartbeats 4000000 in
theorem rChkM_any (p m : Int) (ml : List Int) (mv : Value) (w : World) (hmv : ISl w mv ml) (cols : Int) (rows : List (List Int)) (v : Value) (hv : MSl w v rows) :
    Calls Try.prog 32 #[.agg #[.int .i64 p, .int .i64 m, mv], .agg #[.int .i64 cols, v]] w fun r w' => ∃ e, r = .returned (.int .i64 e) ∧ ChkOut p m ml cols rows e ∧ Ex w w' := by
  obtain ⟨g0, g1, g2, e0, gsz⟩ := box_facts w p m mv
  have HMV := hid_ hmv
  have HV := hid_ hv
  obtain ⟨za, zc, rfl, z1, z2, z3⟩ := hv.open
  have Z3 := hid_ z3
  unfold maxLen at z2
  obtain ⟨xb, hxb⟩ : ∃ xb, w.heap.size = xb := ⟨_, rfl⟩
  rw [hxb] at g0 g1 g2 gsz
  have HCH := hid_ (fun w' h => rCheck_any p m ml mv w' h)
  have HCI := hid_ (chk_iff p m ml)
  have HC01 := hid_ (show chkS p m ml = 0 ∨ chkS p m ml = 1 by unfold chkS; split <;> simp)
  clear hmv hv z3
  go_enter Try.func32, Try.ntmps32
  go_wp2_with fail
  try simp only [hxb]
  generalize w.alloc (.cells #[.int .i64 p, .int .i64 m, mv] 24) = wA at *
  have a0 : (wA.alloc (.cells #[.int .i64 cols, .slice za rows.length zc] 27)).cell? ⟨xb + 1, 0, none⟩ = some (.int .i64 cols) := by rw [← gsz]; simp
  have a1 : (wA.alloc (.cells #[.int .i64 cols, .slice za rows.length zc] 27)).cell? ⟨xb + 1, 1, none⟩ = some (.slice za rows.length zc) := by rw [← gsz]; simp
  have eA : Ex wA (wA.alloc (.cells #[.int .i64 cols, .slice za rows.length zc] 27)) := (Ex.refl _).alloc _
  generalize wA.alloc (.cells #[.int .i64 cols, .slice za rows.length zc] 27) = wB at *
  have b0 := eA.cell g0
  have b1 := eA.cell g1
  have b2 := eA.cell g2
  have eB := e0.trans eA
  clear g0 g1 g2 e0 eA gsz hxb wA
  refine (HCH.out wB (HMV.out.ex eB)).mono ?_
  rintro r w4 ⟨rfl, hx4⟩
  have c0 := hx4.cell b0
  have c1 := hx4.cell b1
  have c2 := hx4.cell b2
  have c3 := hx4.cell a0
  have c4 := hx4.cell a1
  have EX4 := hid_ (eB.trans hx4)
  clear b0 b1 b2 a0 a1 hx4 eB
  by_cases h0 : chkS p m ml = 0
  · obtain ⟨pn, mn, rfl, rfl, hsh, hpr, hif⟩ := HCI.out.1 h0
    have HFL := hid_ (show FldB pn mn ml from ⟨pn, mn, rfl, rfl, hsh, hpr, hif⟩)
    have HEN := hid_ (fun w' l v (h : ISl w' v l) => rEntries_any (mv := mv) w' hsh l v h)
    have HOUT := hid_ (show ∀ e, e = mchkS (pn ^ mn) cols rows → ChkOut pn mn ml cols rows e from fun e h => .inl ⟨pn, mn, rfl, rfl, HFL.out, h⟩)
    have HE := hid_ (show mchkS (pn ^ mn) cols rows = if cols < 0 ∨ 256 < cols ∨ 256 < (rows.length : Int) then 3
  else if (rows.all fun r => decide ((r.length : Int) = cols)) = true then (if (rows.all fun r => entS (pn ^ mn) r == 0) = true then 0 else 2) else 3 from rfl)
    rw [h0]
    clear h0 hsh hpr hif HCI HC01
    by_cases h : cols < 0 ∨ 256 < cols ∨ 256 < (rows.length : Int)
    · have HR := hid_ (HOUT.out 3 (by rw [HE.out, if_pos h]))
      have hc : cols < 0 ∨ (0 ≤ cols ∧ 256 < cols) ∨ (0 ≤ cols ∧ cols ≤ 256 ∧ 256 < (rows.length : Int)) := by omega
      clear h HE
      rcases hc with hc | ⟨h1, h2⟩ | ⟨h1, h2, h3⟩
      all_goals
        go_wp2_with fail
        go_ret
        exact ⟨_, rfl, HR.out, EX4.out⟩
    · have h1 : 0 ≤ cols := by omega
      have h2 : cols ≤ 256 := by omega
      have h3 : (rows.length : Int) ≤ 256 := by omega
      have d1 : decide (cols < 0) = false := by simp; omega
      have d2 : decide (256 < cols) = false := by simp; omega
      have d3 : decide (256 < (rows.length : Int)) = false := by simp; omega
      have HE2 := hid_ (show mchkS (pn ^ mn) cols rows = if (rows.all fun r => decide ((r.length : Int) = cols)) = true then (if (rows.all fun r => entS (pn ^ mn) r == 0) = true then 0 else 2) else 3 by rw [HE.out, if_neg h])
      have EXR : Ex w4 w4 := Ex.refl _
      clear h HE
      go_wp2_with fail
      go_loopw [6] (fun i' wr => ∃ i : Nat, i ≤ rows.length ∧ i' = .int .i64 i ∧ Hid (∀ (j : Nat) (r : List Int), j < i → rows[j]? = some r → (r.length : Int) = cols) ∧ Ex w4 wr) (fun i' _ => rows.length - (intOf i').toNat)
      case atStart => exact ⟨0, by omega, rfl, hid_ (fun j x h => by omega), EXR⟩
      case round =>
        clear EXR
        obtain ⟨i, hi, rfl, hall, hx⟩ := hrel
        have r0 := hx.cell c3
        have r1 := hx.cell c4
        by_cases hlt : i < rows.length
        · obtain ⟨r, hr⟩ : ∃ r, rows[i]? = some r := ⟨_, List.getElem?_eq_getElem hlt⟩
          obtain ⟨bb, o, rfl, hc⟩ := Z3.out (by omega)
          obtain ⟨u, e1, hu⟩ := hc i r hr
          obtain ⟨ua, uc, rfl, u1, u2, u3⟩ := hu.open
          have e2 := (EX4.out.trans hx).cell e1
          have i1 : (0 : Int) ≤ (i : Int) := by omega
          have i2 : (i : Int) < (rows.length : Int) := by omega
          unfold maxLen at u2
          by_cases hl : (r.length : Int) = cols
          · have hb : ((r.length : Int) != cols) = false := by simpa using hl
            have HA := hid_ (show ∀ (j : Nat) (s : List Int), j < i + 1 → rows[j]? = some s → (s.length : Int) = cols from fun j s hj hs => by
              by_cases e : j = i
              · subst e; rw [hr] at hs; injection hs with hs; subst hs; exact hl
              · exact hall.out j s (by omega) hs)
            clear hl hc e1 hu u3 hr
            go_wp2_with fail
            go_quiet (fail)
            go_wp2_with fail
            go_roundw
            case rel => exact ⟨i + 1, by omega, by go_num, HA, hx.drewN _⟩
            case measure => simp [intOf]; omega
          · have hb : ((r.length : Int) != cols) = true := by simpa using hl
            have HF := hid_ (HOUT.out 3 (by
              rw [HE2.out, if_neg]
              intro h
              have := List.all_eq_true.1 h r (List.mem_of_getElem? hr)
              exact hl (by simpa using this)))
            clear hl hc e1 hu u3 hr
            go_wp2_with fail
            go_quiet (fail)
            go_wp2_with fail
            go_ret
            exact ⟨_, rfl, HF.out, (EX4.out.trans hx).drewN _⟩
        · obtain rfl : i = rows.length := by omega
          have HE3 := hid_ (show mchkS (pn ^ mn) cols rows = if (rows.all fun r => entS (pn ^ mn) r == 0) = true then 0 else 2 by
            rw [HE2.out, if_pos]
            rw [List.all_eq_true]
            intro r hr
            obtain ⟨j, hj, e⟩ := List.getElem_of_mem hr
            exact decide_eq_true (hall.out j r hj (by rw [List.getElem?_eq_getElem hj, e])))
          clear hall
          go_wp2_with fail
          obtain ⟨wo, rfl⟩ : ∃ wo : World, wo = wr := ⟨_, rfl⟩
          clear r0 r1
          go_loopw [5, 7] (fun e' i' wr => ∃ i : Nat, i ≤ rows.length ∧ i' = .int .i64 i ∧ e' = .int .i64 0 ∧ Hid (∀ (j : Nat) (r : List Int), j < i → rows[j]? = some r → entS (pn ^ mn) r = 0) ∧ Ex w4 wr) (fun _ i' _ => rows.length - (intOf i').toNat)
          case atStart => exact ⟨0, by omega, rfl, rfl, hid_ (fun j x h => by omega), hx⟩
          case round =>
            clear hx
            obtain ⟨i, hi, rfl, rfl, hall, hx⟩ := hrel
            have r0 := hx.cell c3
            have r1 := hx.cell c4
            have s0 := hx.cell c0
            have s1 := hx.cell c1
            have s2 := hx.cell c2
            by_cases hlt : i < rows.length
            · obtain ⟨r, hr⟩ : ∃ r, rows[i]? = some r := ⟨_, List.getElem?_eq_getElem hlt⟩
              obtain ⟨bb, o, rfl, hc⟩ := Z3.out (by omega)
              obtain ⟨u, e1, hu⟩ := hc i r hr
              have hu2 := hu.ex (EX4.out.trans hx)
              obtain ⟨ua, uc, rfl, u1, u2, u3⟩ := hu.open
              have e2 := (EX4.out.trans hx).cell e1
              have i1 : (0 : Int) ≤ (i : Int) := by omega
              have i2 : (i : Int) < (rows.length : Int) := by omega
              have HEN2 := hid_ (HEN.out wr.drew r _ hu2)
              have hx' := hx.drew
              unfold maxLen at u2
              obtain ⟨ev, hev⟩ : ∃ ev, entS (pn ^ mn) r = ev := ⟨_, rfl⟩
              have hev2 : ev = 0 ∨ ev = 2 := by rw [← hev]; exact entS_ne
              rw [hev] at HEN2
              have HA := hid_ (show ev = 0 → ∀ (j : Nat) (s : List Int), j < i + 1 → rows[j]? = some s → entS (pn ^ mn) s = 0 from fun h0 j s hj hs => by
                by_cases e : j = i
                · subst e; rw [hr] at hs; injection hs with hs; subst hs; rw [hev, h0]
                · exact hall.out j s (by omega) hs)
              have HF := hid_ (show ev ≠ 0 → ChkOut pn mn ml cols rows 2 from fun h0 => HOUT.out 2 (by
                rw [HE3.out, if_neg]
                intro h
                have := List.all_eq_true.1 h r (List.mem_of_getElem? hr)
                rw [hev] at this
                exact h0 (by simpa using this)))
              clear hc e1 hu hu2 u3 hr hev
              go_wp2_with fail
              go_region_held3 (fun w' => w'.cell? ⟨xb, 0, none⟩ = some (.int .i64 pn) ∧ w'.cell? ⟨xb, 1, none⟩ = some (.int .i64 mn) ∧ w'.cell? ⟨xb, 2, none⟩ = some mv ∧ w'.cell? ⟨xb + 1, 1, none⟩ = some (.slice (some ⟨bb, o, none⟩) rows.length zc) ∧ w'.cell? ⟨bb, o + i, none⟩ = some (.slice ua r.length uc))
                (first | exact ⟨s0, s1, s2, r1, e2⟩ | exact ⟨hx5.cell s0, hx5.cell s1, hx5.cell s2, hx5.cell r1, hx5.cell e2⟩)
                ((go_at_call 71; refine HEN2.out.mono ?_; rintro e w5 ⟨rfl, hx5⟩))
              rcases hev2 with h0 | h0
              · subst h0
                have HA2 := hid_ (HA.out rfl)
                go_wp2_with fail
                go_roundw
                case rel => exact ⟨i + 1, by omega, by go_num, rfl, HA2, hx'.trans hx5⟩
                case measure => simp [intOf]; omega
              · subst h0
                have HF2 := hid_ (HF.out (by omega))
                go_wp2_with fail
                go_ret
                exact ⟨_, rfl, HF2.out, EX4.out.trans (hx'.trans hx5)⟩
            · obtain rfl : i = rows.length := by omega
              have HF := hid_ (HOUT.out 0 (by
                rw [HE3.out, if_pos]
                rw [List.all_eq_true]
                intro r hr
                obtain ⟨j, hj, e⟩ := List.getElem_of_mem hr
                rw [hall.out j r hj (by rw [List.getElem?_eq_getElem hj, e])]; rfl))
              go_wp2_with fail
              go_ret
              exact ⟨_, rfl, HF.out, EX4.out.trans hx⟩
  · have h1 : chkS p m ml = 1 := by rcases HC01.out with h | h; exact absurd h h0; exact h
    have HN := hid_ (show ChkOut p m ml cols rows 1 from .inr ⟨fun h => h0 (HCI.out.2 h), rfl⟩)
    rw [h1]
    clear h0 h1 HCI HC01 HCH
    go_wp2_with fail
    go_ret
    exact ⟨_, rfl, HN.out, EX4.out⟩

/-- Some Boolean, in a world that has only grown. -/
def SomeB (w : World) (r : Ending) (w' : World) : Prop := ∃ b, r = .returned (.bool b) ∧ Ex w w'

set_option maxRecDepth 100000 in
set_option maxHeartbeats 4000000 in
theorem few_any (p m : Int) (ml : List Int) (mv : Value) (w : World) (cols : Int) (rows : List (List Int)) (v : Value) (hv : MSl w v rows) :
    Calls Try.prog 29 #[.agg #[.int .i64 p, .int .i64 m, mv], .agg #[.int .i64 cols, v]] w fun r w' => SomeB w r w' := by
  obtain ⟨g0, g1, g2, e0, gsz⟩ := box_facts w p m mv
  have HV := hid_ hv
  have HFW := hid_ (fun w' (h : MSl w' v rows) => Few_any w' cols rows v h 150 (by omega) (by omega))
  have HOR := hid_ (fun w' => rOrder_any p m mv w')
  obtain ⟨za, zc, rfl, z1, z2, z3⟩ := hv.open
  clear z1 z2 z3
  obtain ⟨xb, hxb⟩ : ∃ xb, w.heap.size = xb := ⟨_, rfl⟩
  rw [hxb] at g0 g1 g2 gsz
  clear hv
  go_enter Try.func29, Try.ntmps29
  go_wp2_with fail
  try simp only [hxb]
  generalize w.alloc (.cells #[.int .i64 p, .int .i64 m, mv] 24) = wA at *
  have a0 : (wA.alloc (.cells #[.int .i64 cols, .slice za rows.length zc] 27)).cell? ⟨xb + 1, 0, none⟩ = some (.int .i64 cols) := by rw [← gsz]; simp
  have eA : Ex wA (wA.alloc (.cells #[.int .i64 cols, .slice za rows.length zc] 27)) := (Ex.refl _).alloc _
  generalize wA.alloc (.cells #[.int .i64 cols, .slice za rows.length zc] 27) = wB at *
  have b0 := eA.cell g0
  have b1 := eA.cell g1
  have b2 := eA.cell g2
  have eB := e0.trans eA
  clear g0 g1 g2 e0 eA gsz hxb wA
  refine (HFW.out wB (HV.out.ex eB)).mono ?_
  rintro r w4 ⟨b, rfl, hx4⟩
  have c0 := hx4.cell b0
  have c1 := hx4.cell b1
  have c2 := hx4.cell b2
  have c3 := hx4.cell a0
  have EX4 := hid_ (eB.trans hx4)
  have HO := hid_ (HOR.out w4)
  clear b0 b1 b2 a0 hx4 eB
  cases b with
  | false =>
    go_wp2_with fail
    go_ret
    exact ⟨_, rfl, EX4.out⟩
  | true =>
    by_cases h1 : cols ≤ 16
    · go_wp2_with (go_at_call 59; refine HO.out.mono ?_; rintro e w5 ⟨rfl, hx5⟩)
      go_ret
      exact ⟨_, rfl, EX4.out.trans hx5⟩
    · have h1' : 16 < cols := by omega
      have d1 : decide (cols ≤ 16) = false := by simpa using h1
      clear h1
      by_cases h2 : 64 < cols
      · go_wp2_with (go_at_call 59; refine HO.out.mono ?_; rintro e w5 ⟨rfl, hx5⟩)
        go_ret
        exact ⟨_, rfl, EX4.out.trans hx5⟩
      · have h2' : cols ≤ 64 := by omega
        clear h2
        go_wp2_with fail
        go_ret
        exact ⟨_, rfl, EX4.out⟩
end Go.Proofs.Ytpphaicbdeeacaa
