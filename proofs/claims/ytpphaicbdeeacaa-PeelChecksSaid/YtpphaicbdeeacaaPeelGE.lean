/- Walks of the reference's Stopping, Core and Greatest. -/
import Derived.Test.YtpphaicbdeeacaaPeelGD
namespace Go.Proofs.Ytpphaicbdeeacaa
set_option linter.unusedVariables false
set_option linter.unusedSimpArgs false
open Go.RowKit

theorem risB_len' {N : Nat} {l : List Int} (h : risB N l = true) : l.length ≤ N := by
  rw [asc_lft h]; exact lft_len _ _
theorem rows_len {N : Nat} {rows : List (List Int)} (h : ∀ r ∈ rows, risB (N : Int) r = true) (hN : N ≤ 64) : ∀ (j : Nat) (r : List Int), rows[j]? = some r → r.length ≤ 1000 := fun j r hr => by
  have := risB_len' (h r (List.mem_of_getElem? hr)); omega

set_option maxRecDepth 100000 in
set_option maxHeartbeats 4000000 in
theorem rStopping_any (w : World) (V : Int) (v lv : Value) (rows : List (List Int)) (l : List Int) (hv : MSl w v rows) (hl : ISl w lv l) :
    Calls Try.prog 21 #[.agg #[.int .i64 V, v], lv] w fun r w' => r = .returned (.tuple #[.bool (stopB V rows l), .int .i64 (setsE V rows l)]) ∧ Ex w w' := by
  obtain ⟨d0, d1, e0⟩ := boxT_facts w V v
  have HV := hid_ (hv.ex e0)
  have HL := hid_ (hl.ex e0)
  obtain ⟨za, zc, rfl, z1, z2, _⟩ := hv.open
  obtain ⟨la, lc, rfl, _, _, _⟩ := hl.open
  have HE := hid_ (show setsE V rows l = if pchkS V rows = 0 then (if risB V l = true then 0 else 6) else pchkS V rows from rfl)
  have HB := hid_ (show stopB V rows l = if pchkS V rows = 0 then (if risB V l = true then decide (aloneI (mkm l) rows < 0) else false) else false from rfl)
  clear hv hl
  go_enter Try.func21, Try.ntmps21
  go_wp2_with fail
  obtain ⟨xb, hxb⟩ : ∃ xb, w.heap.size = xb := ⟨_, rfl⟩
  rw [hxb] at d0 d1
  try simp only [hxb]
  clear hxb
  generalize w.alloc (.cells #[.int .i64 V, .slice za rows.length zc] 31) = w0 at *
  refine (rSets_any w0 V _ _ rows l HV.out HL.out).mono ?_
  rintro e w1 ⟨rfl, hx1⟩
  have d0 := hx1.cell d0
  have d1 := hx1.cell d1
  have HX1 := hid_ hx1
  have HX := hid_ (e0.trans hx1)
  clear hx1 e0
  by_cases hs : setsE V rows l = 0
  · have hk : pchkS V rows = 0 := by
      rw [HE.out] at hs
      by_cases e : pchkS V rows = 0
      · exact e
      · rw [if_neg e] at hs; exact hs
    have hb : risB V l = true := by
      rw [HE.out, if_pos hk] at hs
      by_cases e : risB V l = true
      · exact e
      · rw [if_neg e] at hs; omega
    rw [if_pos hk, if_pos hb] at HB
    obtain ⟨N, rfl, hN1, hN2, hrl, hri, hris⟩ := pchkS_ok hk
    have HST := hid_ (Stops_any w1 N _ _ rows l (HV.out.ex HX1.out) (HL.out.ex HX1.out) (rows_len hris hN2) (by have := risB_len' hb; omega))
    have e2 : stopsB rows l = decide (aloneI (mkm l) rows < 0) := by
      have := stopsB_lft hri (mkm l)
      rw [← asc_lft hb] at this
      exact this
    rw [e2] at HST
    have HS := hid_ hs
    rw [hs]
    clear hk hb hri hris hs e2 HE
    go_wp2_with (go_at_call 52; refine HST.out.mono ?_; rintro e w' ⟨rfl, hx2⟩)
    go_ret2
    exact ⟨ret_bi HB.out.symm HS.out.symm, HX.out.trans hx2⟩
  · have hbs : (setsE V rows l != 0) = true := by simpa using hs
    have HB2 := hid_ (show stopB V rows l = false from by
      rw [HB.out]
      by_cases e : pchkS V rows = 0
      · rw [if_pos e]
        by_cases e2 : risB V l = true
        · exfalso; apply hs; rw [HE.out, if_pos e, if_pos e2]
        · rw [if_neg e2]
      · rw [if_neg e])
    clear hs HE HB
    go_wp2_with fail
    go_ret2
    exact ⟨ret_bi HB2.out.symm rfl, HX.out⟩

set_option maxRecDepth 100000 in
set_option maxHeartbeats 4000000 in
theorem Core_any (N : Nat) (rows : List (List Int)) (hp : pchkS N rows = 0) : ∀ (n : Nat) (w : World) (v lv : Value) (f : Nat → Bool), (lft N f).length < n → MSl w v rows → ISl w lv (lft N f) →
    Calls Try.prog 56 #[.agg #[.int .i64 N, v], lv] w fun r w' => ∃ u f', r = .returned u ∧ Peels rows f f' ∧ ISl w' u (lft N f') ∧ Ex w w' := by
  intro n
  induction n with
  | zero => exact fun w v lv f h => absurd h (by omega)
  | succ n ih =>
    intro w v lv f hn hv hl
    obtain ⟨N', e1, hN1, hN2, hrl, hri, hris⟩ := pchkS_ok hp
    have e1 : N' = N := by omega
    subst e1
    obtain ⟨d0, d1, e0⟩ := boxT_facts w N' v
    have HV := hid_ (hv.ex e0)
    have HL := hid_ (hl.ex e0)
    obtain ⟨za, zc, rfl, z1, z2, _⟩ := hv.open
    obtain ⟨la, lc, rfl, _, _, _⟩ := hl.open
    unfold maxLen at z2
    have H64 := hid_ (rows_len hris hN2)
    have HRI := hid_ hri
    have HIH := hid_ ih
    have HN := hid_ hn
    have hll := lft_len N' f
    clear hv hl ih hri hris hn
    go_enter Try.func56, Try.ntmps56
    go_wp2_with fail
    obtain ⟨xb, hxb⟩ : ∃ xb, w.heap.size = xb := ⟨_, rfl⟩
    rw [hxb] at d0 d1
    try simp only [hxb]
    clear hxb
    generalize w.alloc (.cells #[.int .i64 N', .slice za rows.length zc] 31) = w0 at *
    have D0 := hid_ d0
    have D1 := hid_ d1
    have E0 := hid_ e0
    have HX := hid_ (Ex.refl w0)
    clear e0 d0 d1
    go_loopw [5] (fun i' wr => ∃ i : Nat, i ≤ rows.length ∧ i' = .int .i64 i ∧ Hid (Ex w0 wr) ∧ Hid (∀ (k : Nat) (r : List Int), k < i → rows[k]? = some r → alone1 f r = none)) (fun i' _ => rows.length - (intOf i').toNat)
    case atStart => exact ⟨0, by omega, rfl, HX, hid_ (fun k r hk => by omega)⟩
    case round =>
      clear HX
      obtain ⟨i, hi, rfl, hx, hall⟩ := hrel
      have d1 := hx.out.cell D1.out
      by_cases hil : i < rows.length
      · obtain ⟨r, hr⟩ : ∃ r, rows[i]? = some r := ⟨_, List.getElem?_eq_getElem hil⟩
        obtain ⟨_, _, e1, _, _, h3⟩ := (HV.out.ex hx.out).open
        injection e1 with e1 e2 e3
        subst e1 e3
        obtain ⟨zb, zo, rfl, hzc⟩ := h3 (by omega)
        obtain ⟨uz, c1, huz⟩ := hzc i r hr
        have hin : ∀ y ∈ r, 0 ≤ y ∧ y < N' := fun y hy => by
          obtain ⟨k, hk, e⟩ := List.getElem_of_mem hy
          exact HRI.out i r k y hr (by rw [List.getElem?_eq_getElem hk, e])
        have HCO := hid_ (common_any wr r (lft N' f) _ _ huz (HL.out.ex hx.out) (H64.out i r hr) (by omega))
        rw [shI_lft f hin] at HCO
        obtain ⟨ua, uc, rfl, _, u2, _⟩ := huz.open
        unfold maxLen at u2
        have i1 : (0 : Int) ≤ (i : Int) := by omega
        have i2 : (i : Int) < (rows.length : Int) := by omega
        clear h3 hzc huz
        by_cases h1 : (inn f r).length = 1
        · have ha1 := alone1_one h1
          have hmem : lastI (inn f r) ∈ inn f r := by
            obtain ⟨z, hz⟩ := List.length_eq_one_iff.1 h1
            rw [hz]; show z ∈ [z]; simp
          obtain ⟨hm1, hm2⟩ := List.mem_filter.1 hmem
          obtain ⟨hm3, hm4⟩ := hin _ hm1
          obtain ⟨X, hX⟩ : ∃ X : Nat, lastI (inn f r) = X := ⟨(lastI (inn f r)).toNat, by omega⟩
          rw [h1, hX] at HCO
          rw [hX] at ha1 hm2 hm4
          rw [Int.toNat_natCast] at hm2
          have hXN : X < N' := by omega
          have HAL := hid_ (findSome_at hr ha1 hall.out)
          have HCNT := hid_ (lft_upd hm2 N' hXN)
          have HWO := hid_ (woI_lft N' f X)
          have HSTEP := hid_ (show ∀ f', Peels rows (upd f X false) f' → Peels rows f f' from fun f' h => Peels.step f f' (by rw [HAL.out]; omega) (by rw [HAL.out, Int.toNat_natCast]; exact h))
          clear hm1 hmem hX h1 hin ha1 hm2 hm3 hm4 hall hr
          go_wp2_with (go_at_call 72; refine HCO.out.mono ?_; rintro e w' ⟨rfl, qc, rfl⟩)
          have HXQ := hid_ (hx.out.drewN qc)
          clear HCO c1 d1 hx
          generalize wr.drewN qc = W at *
          have HW := hid_ (fun w' (h : Ex w0 w') => without_any w' (lft N' f) _ X (HL.out.ex h) (by omega))
          have HC := hid_ (fun w' (u : Value) (h : Ex w0 w') (hu : ISl w' u (lft N' (upd f X false))) => HIH.out w' (.slice (some ⟨zb, zo, none⟩) rows.length zc) u (upd f X false) (by have h1 := HCNT.out; have h2 := HN.out; omega) (HV.out.ex h) hu)
          have E1 : Ex W W.drew := (Ex.refl W).drew
          have G0 : Ex w0 W.drew := HXQ.out.trans E1
          go_region_held3 (fun w' => w'.cell? ⟨xb, 0, none⟩ = some (.int .i64 N') ∧ w'.cell? ⟨xb, 1, none⟩ = some (.slice (some ⟨zb, zo, none⟩) rows.length zc))
            (first | with_reducible exact ⟨G0.cell D0.out, G0.cell D1.out⟩ | with_reducible exact ⟨G1.cell D0.out, G1.cell D1.out⟩ | with_reducible exact ⟨G2.cell D0.out, G2.cell D1.out⟩)
            ((first
              | (go_at_call 77; (with_reducible refine (HW.out _ G0).mono ?_); rintro e wx1 ⟨u1, rfl, hown, hy1⟩; have G1 := G0.trans hy1; rw [HWO.out] at hown; have HU1 : ISl wx1 u1 (lft N' (upd f X false)) := Sl.own hown)
              | (go_at_call 56; (with_reducible refine (HC.out _ _ G1 HU1).mono ?_); rintro e wx2 ⟨u2, f', rfl, hpe, hu2, hy2⟩; have G2 := G1.trans hy2)))
          have HRES := hid_ (HSTEP.out f' hpe)
          have HU2 := hid_ hu2
          have HXF := hid_ (E0.out.trans G2)
          clear hpe hu2 hown HU1 G0 G1 G2 hy1 hy2 HC HW E1
          go_wp2_with fail
          go_ret
          exact ⟨u2, f', rfl, HRES.out, HU2.out, HXF.out⟩
        · have HALL := hid_ (show ∀ (k : Nat) (s : List Int), k < i + 1 → rows[k]? = some s → alone1 f s = none from fun k s hk hs => by
            by_cases e : k = i
            · subst e; rw [hr] at hs; injection hs with hs; subst hs; exact alone1_not h1
            · exact hall.out k s (by omega) hs)
          obtain ⟨n1, hn1⟩ : ∃ n1, (inn f r).length = n1 := ⟨_, rfl⟩
          rw [hn1] at HCO h1
          have hb1 : (((n1 : Nat) : Int) == 1) = false := by simp; omega
          generalize lastI (inn f r) = la1 at *
          clear hn1 h1 hall hr hin
          go_wp2_with (go_at_call 72; refine HCO.out.mono ?_; rintro e w' ⟨rfl, qc, rfl⟩)
          go_roundw
          case rel => exact ⟨i + 1, by omega, by go_num, hid_ (hx.out.drewN qc), HALL⟩
          case measure => simp [intOf]; omega
      · obtain rfl : rows.length = i := by omega
        have HRES := hid_ (show Peels rows f f from Peels.done f (alone_no hall.out))
        have HU2 := hid_ (HL.out.ex hx.out)
        clear hall
        go_wp2_with fail
        go_ret
        exact ⟨_, f, rfl, HRES.out, HU2.out, E0.out.trans hx.out⟩

set_option maxRecDepth 100000 in
set_option maxHeartbeats 4000000 in
theorem rGreatest_any (w : World) (V : Int) (v lv : Value) (rows : List (List Int)) (l : List Int) (hv : MSl w v rows) (hl : ISl w lv l) :
    Calls Try.prog 25 #[.agg #[.int .i64 V, v], lv] w fun r w' => ∃ u L, r = .returned (.tuple #[u, .int .i64 (setsE V rows l)]) ∧ GreL V rows l L ∧ ISl w' u L ∧ Ex w w' := by
  obtain ⟨d0, d1, e0⟩ := boxT_facts w V v
  have HV := hid_ (hv.ex e0)
  have HL := hid_ (hl.ex e0)
  obtain ⟨za, zc, rfl, z1, z2, _⟩ := hv.open
  obtain ⟨la, lc, rfl, _, _, _⟩ := hl.open
  have HE := hid_ (show setsE V rows l = if pchkS V rows = 0 then (if risB V l = true then 0 else 6) else pchkS V rows from rfl)
  clear hv hl
  go_enter Try.func25, Try.ntmps25
  go_wp2_with fail
  obtain ⟨xb, hxb⟩ : ∃ xb, w.heap.size = xb := ⟨_, rfl⟩
  rw [hxb] at d0 d1
  try simp only [hxb]
  clear hxb
  generalize w.alloc (.cells #[.int .i64 V, .slice za rows.length zc] 31) = w0 at *
  refine (rSets_any w0 V _ _ rows l HV.out HL.out).mono ?_
  rintro e w1 ⟨rfl, hx1⟩
  have d0 := hx1.cell d0
  have d1 := hx1.cell d1
  have HX1 := hid_ hx1
  have HX := hid_ (e0.trans hx1)
  clear hx1 e0
  by_cases hs : setsE V rows l = 0
  · have hk : pchkS V rows = 0 := by
      rw [HE.out] at hs
      by_cases e : pchkS V rows = 0
      · exact e
      · rw [if_neg e] at hs; exact hs
    have hb : risB V l = true := by
      rw [HE.out, if_pos hk] at hs
      by_cases e : risB V l = true
      · exact e
      · rw [if_neg e] at hs; omega
    obtain ⟨N, rfl, hN1, hN2, hrl, hri, hris⟩ := pchkS_ok hk
    have HC := hid_ (Core_any N rows hk ((lft N (mkm l)).length + 1) w1 _ (.slice la l.length lc) (mkm l) (by omega) (HV.out.ex HX1.out) (by rw [← asc_lft hb]; exact HL.out.ex HX1.out))
    have HG := hid_ (show ∀ f', Peels rows (mkm l) f' → GreL N rows l (lft N f') from fun f' h => ⟨fun h' => absurd hs h', fun _ => ⟨f', h, by simp⟩⟩)
    have HS := hid_ hs
    rw [hs]
    clear hk hb hri hris hs HE
    go_wp2_with (go_at_call 56; refine HC.out.mono ?_; rintro e w' ⟨u, f', rfl, hpe, hu, hx2⟩)
    go_ret2
    exact ⟨u, lft N f', by rw [HS.out]; rfl, HG.out f' hpe, hu, HX.out.trans hx2⟩
  · have hbs : (setsE V rows l != 0) = true := by simpa using hs
    have HG := hid_ (show GreL V rows l [] from ⟨fun _ => rfl, fun h => absurd h hs⟩)
    clear hs HE
    go_wp2_with fail
    go_ret2
    exact ⟨_, [], rfl, HG.out, isl_nil _, HX.out⟩
end Go.Proofs.Ytpphaicbdeeacaa
