/- Walk of the law PeelRecovers. -/
import Derived.Test.YtpphaicbdeeacaaPeelHK
namespace Go.Proofs.Ytpphaicbdeeacaa
set_option linter.unusedVariables false
set_option linter.unusedSimpArgs false
open Go.RowKit

theorem Sl.setOff {w : World} {v : Value} {n size : Nat} {xs : List Value} (h : Sl w v n size xs) {ob j : Nat} {u : Value} (hap : 0 < n → ∀ b o c, v = .slice (some ⟨b, o, none⟩) n c → b ≠ ob) : Sl (w.setCell ⟨ob, j, none⟩ u) v n size xs := by
  obtain ⟨h1, a, cap, rfl, h3, h4, h5⟩ := h
  refine ⟨h1, a, cap, rfl, h3, h4, fun hn => ?_⟩
  obtain ⟨b, o, rfl, h6⟩ := h5 hn
  exact ⟨b, o, rfl, fun i z hz => by rw [World.cell?_setCell_other _ _ _ _ (by intro e; injection e with e1; exact hap hn b o cap rfl e1.symm)]; exact h6 i z hz⟩

set_option maxRecDepth 100000 in
set_option maxHeartbeats 8000000 in
theorem PeelRecovers_any (w : World) (p m : Int) (mv : Value) (ml : List Int) (cols : Int) (v : Value) (rows : List (List Int)) (u0 u1 u2 : Value) (l0 l1 l2 : List Int) (hmv : ISl w mv ml) (hv : MSl w v rows) (h0 : ISl w u0 l0) (h1 : ISl w u1 l1) (h2 : ISl w u2 l2) :
    Calls Try.prog 11 #[.agg #[.int .i64 p, .int .i64 m, mv], .agg #[.int .i64 cols, v], .agg #[u0, u1, u2]] w fun r w' => r = .returned (.bool true) ∧ Ex w w' := by
  obtain ⟨g0, g1, g2, e0, gsz⟩ := box_facts w p m mv
  have HMV := hid_ hmv
  have HV := hid_ hv
  have H0 := hid_ h0
  have H1 := hid_ h1
  have H2 := hid_ h2
  obtain ⟨za, zc, rfl, _, _, _⟩ := hv.open
  obtain ⟨ua, uc, rfl, _, _, _⟩ := h0.open
  obtain ⟨xa, xc, rfl, _, _, _⟩ := h1.open
  obtain ⟨ya, yc, rfl, y1, y2, _⟩ := h2.open
  obtain ⟨xb, hxb⟩ : ∃ xb, w.heap.size = xb := ⟨_, rfl⟩
  rw [hxb] at g0 g1 g2 gsz
  clear hmv hv h0 h1 h2
  go_enter Try.func11, Try.ntmps11
  go_wp2_with fail
  try simp only [hxb]
  clear hxb
  generalize w.alloc (.cells #[.int .i64 p, .int .i64 m, mv] 24) = wA at *
  have a0 : (wA.alloc (.cells #[.int .i64 cols, .slice za rows.length zc] 27)).cell? ⟨xb + 1, 0, none⟩ = some (.int .i64 cols) := by rw [← gsz]; simp
  have a1 : (wA.alloc (.cells #[.int .i64 cols, .slice za rows.length zc] 27)).cell? ⟨xb + 1, 1, none⟩ = some (.slice za rows.length zc) := by rw [← gsz]; simp
  have asz : (wA.alloc (.cells #[.int .i64 cols, .slice za rows.length zc] 27)).heap.size = xb + 1 + 1 := by simp [gsz]
  have eA : Ex wA (wA.alloc (.cells #[.int .i64 cols, .slice za rows.length zc] 27)) := (Ex.refl _).alloc _
  generalize wA.alloc (.cells #[.int .i64 cols, .slice za rows.length zc] 27) = wB at *
  have q0 : (wB.alloc (.cells #[.slice ua l0.length uc, .slice xa l1.length xc, .slice ya l2.length yc] 53)).cell? ⟨xb + 1 + 1, 0, none⟩ = some (.slice ua l0.length uc) := by rw [← asz]; simp
  have q1 : (wB.alloc (.cells #[.slice ua l0.length uc, .slice xa l1.length xc, .slice ya l2.length yc] 53)).cell? ⟨xb + 1 + 1, 1, none⟩ = some (.slice xa l1.length xc) := by rw [← asz]; simp
  have q2 : (wB.alloc (.cells #[.slice ua l0.length uc, .slice xa l1.length xc, .slice ya l2.length yc] 53)).cell? ⟨xb + 1 + 1, 2, none⟩ = some (.slice ya l2.length yc) := by rw [← asz]; simp
  have eB : Ex wB (wB.alloc (.cells #[.slice ua l0.length uc, .slice xa l1.length xc, .slice ya l2.length yc] 53)) := (Ex.refl _).alloc _
  generalize wB.alloc (.cells #[.slice ua l0.length uc, .slice xa l1.length xc, .slice ya l2.length yc] 53) = wC at *
  have c0 := eB.cell (eA.cell g0)
  have c1 := eB.cell (eA.cell g1)
  have c2 := eB.cell (eA.cell g2)
  have c3 := eB.cell a0
  have c4 := eB.cell a1
  have EX := hid_ ((e0.trans eA).trans eB)
  clear g0 g1 g2 a0 a1 gsz asz e0 eA eB wA wB
  refine (awake_any wC).mono ?_
  rintro e w1 ⟨rfl, hx1⟩
  have c0 := hx1.cell c0
  have c1 := hx1.cell c1
  have c2 := hx1.cell c2
  have c3 := hx1.cell c3
  have c4 := hx1.cell c4
  have q0 := hx1.cell q0
  have q1 := hx1.cell q1
  have q2 := hx1.cell q2
  have EX := hid_ (EX.out.trans hx1)
  clear hx1
  go_wp2_with fail
  refine (few_any p m ml mv w1 cols rows _ (HV.out.ex EX.out)).mono ?_
  rintro e w2 ⟨b, rfl, hx2⟩
  have c0 := hx2.cell c0
  have c1 := hx2.cell c1
  have c2 := hx2.cell c2
  have c3 := hx2.cell c3
  have c4 := hx2.cell c4
  have q0 := hx2.cell q0
  have q1 := hx2.cell q1
  have q2 := hx2.cell q2
  have EX := hid_ (EX.out.trans hx2)
  clear hx2
  cases b with
  | false =>
    go_wp2_with (go_at_call 12; refine (awake_any _).mono ?_; rintro e w3 ⟨rfl, hx3⟩)
    go_ret
    exact ⟨rfl, EX.out.trans hx3⟩
  | true =>
    by_cases hl0 : 100 < (l0.length : Int)
    · go_wp2_with (go_at_call 12; refine (awake_any _).mono ?_; rintro e w3 ⟨rfl, hx3⟩)
      go_ret
      exact ⟨rfl, EX.out.trans hx3⟩
    · have hl0' : (l0.length : Int) ≤ 100 := by omega
      have d0 : decide (100 < (l0.length : Int)) = false := by simp; omega
      clear hl0
      by_cases hl1 : 100 < (l1.length : Int)
      · go_wp2_with (go_at_call 12; refine (awake_any _).mono ?_; rintro e w3 ⟨rfl, hx3⟩)
        go_ret
        exact ⟨rfl, EX.out.trans hx3⟩
      · have hl1' : (l1.length : Int) ≤ 100 := by omega
        have d1 : decide (100 < (l1.length : Int)) = false := by simp; omega
        clear hl1
        by_cases hl2 : 100 < (l2.length : Int)
        · go_wp2_with (go_at_call 12; refine (awake_any _).mono ?_; rintro e w3 ⟨rfl, hx3⟩)
          go_ret
          exact ⟨rfl, EX.out.trans hx3⟩
        · have hl2' : (l2.length : Int) ≤ 100 := by omega
          have d2 : decide (100 < (l2.length : Int)) = false := by simp; omega
          clear hl2
          go_wp2_with fail
          refine (rChkM_any p m ml mv w2 (HMV.out.ex EX.out) cols rows _ (HV.out.ex EX.out)).mono ?_
          rintro e w3 ⟨ec, rfl, hec, hx3⟩
          have c0 := hx3.cell c0
          have c1 := hx3.cell c1
          have c2 := hx3.cell c2
          have c3 := hx3.cell c3
          have c4 := hx3.cell c4
          have q0 := hx3.cell q0
          have q1 := hx3.cell q1
          have q2 := hx3.cell q2
          have EX := hid_ (EX.out.trans hx3)
          have HEC := hid_ hec
          clear hx3 hec
          by_cases hz : ec = 0
          · subst hz
            obtain ⟨pn, mn, rfl, rfl, hfl, hmk⟩ := HEC.out.ok
            obtain ⟨s1, s2, s3, s4⟩ := mchk_shape hmk
            obtain ⟨N, rfl⟩ : ∃ N : Nat, cols = N := ⟨cols.toNat, by omega⟩
            have HFS := hid_ (show FSh pn mn ml from by
              obtain ⟨pn', mn', e1, e2, h, _, hF⟩ := hfl
              have h1 : pn' = pn := by omega
              have h2 : mn' = mn := by omega
              subst h1 h2
              exact h)
            have HFL := hid_ hfl
            have HMK := hid_ hmk
            have hN : N ≤ 256 := by omega
            have hnr : rows.length ≤ 256 := s3
            clear hfl hmk s4 s1 s2 s3 HEC
            by_cases hN1 : N < 1
            · have d3 : decide ((N : Int) < 1) = true := by simp; omega
              clear hN1
              go_wp2_with (go_at_call 12; refine (awake_any _).mono ?_; rintro e w4 ⟨rfl, hx4⟩)
              go_ret
              exact ⟨rfl, EX.out.trans hx4⟩
            · have d3 : decide ((N : Int) < 1) = false := by simp; omega
              have HN1 := hid_ (show 1 ≤ N from by omega)
              clear hN1
              by_cases hN64 : 64 < N
              · have d4 : decide (64 < (N : Int)) = true := by simp; omega
                clear hN64
                go_wp2_with (go_at_call 12; refine (awake_any _).mono ?_; rintro e w4 ⟨rfl, hx4⟩)
                go_ret
                exact ⟨rfl, EX.out.trans hx4⟩
              · have d4 : decide (64 < (N : Int)) = false := by simp; omega
                have HN64 := hid_ (show N ≤ 64 from by omega)
                have HRI := hid_ (Rising_any w3 l1 _ (N : Int) (H1.out.ex EX.out))
                clear hN64
                by_cases hri : risB (N : Int) l1 = true
                · rw [hri] at HRI
                  have HRS := hid_ hri
                  clear hri
                  have HLI := hid_ (fun n => rList_any (mv := mv) (w3.drewN n) ((HMV.out.ex EX.out).ex ((Ex.refl w3).drewN n)) HFS.out l2 _ ((H2.out.ex EX.out).ex ((Ex.refl w3).drewN n)) (N : Int))
                  have EX3 := hid_ EX.out
                  clear EX
                  go_wp2_with ((go_at_call 37; refine HRI.out.mono ?_; rintro e w' ⟨rfl, qc, rfl⟩; have c0 := ((Ex.refl w3).drewN qc).cell c0; have c1 := ((Ex.refl w3).drewN qc).cell c1; have c2 := ((Ex.refl w3).drewN qc).cell c2; have c3 := ((Ex.refl w3).drewN qc).cell c3; have c4 := ((Ex.refl w3).drewN qc).cell c4; have q0 := ((Ex.refl w3).drewN qc).cell q0; have q1 := ((Ex.refl w3).drewN qc).cell q1; have q2 := ((Ex.refl w3).drewN qc).cell q2))
                  refine (HLI.out qc).mono ?_
                  rintro e w4 ⟨le, rfl, hle, hx4⟩
                  have c0 := hx4.cell c0
                  have c1 := hx4.cell c1
                  have c2 := hx4.cell c2
                  have c3 := hx4.cell c3
                  have c4 := hx4.cell c4
                  have q0 := hx4.cell q0
                  have q1 := hx4.cell q1
                  have q2 := hx4.cell q2
                  have EX := hid_ ((EX3.out.drewN qc).trans hx4)
                  have HLE := hid_ hle
                  clear hx4 hle HLI HRI EX3
                  by_cases hl0 : le = 0
                  · subst hl0
                    obtain ⟨hl2N, hl2e⟩ := HLE.out.1 rfl
                    have HL2N := hid_ (show l2.length = N from by omega)
                    have HL2E := hid_ hl2e
                    clear hl2N hl2e HLE
                    have HROWL := hid_ (show ∀ (j : Nat) (r : List Int), rows[j]? = some r → r.length = N ∧ entS (pn ^ mn) r = 0 from fun j r h => by
                      have := (mchk_shape HMK.out).2.2.2 r (List.mem_of_getElem? h); exact ⟨by omega, this.2⟩)
                    go_wp2_with fail
                    refine (Kernel_any pn mn N ml mv w4 (HMV.out.ex EX.out) rows _ (HV.out.ex EX.out) HFL.out HMK.out HN1.out).mono ?_
                    rintro e w5 ⟨ks, kv, rfl, hko, hks, hx5⟩
                    have c0 := hx5.cell c0
                    have c1 := hx5.cell c1
                    have c2 := hx5.cell c2
                    have c3 := hx5.cell c3
                    have c4 := hx5.cell c4
                    have q0 := hx5.cell q0
                    have q1 := hx5.cell q1
                    have q2 := hx5.cell q2
                    have EX := hid_ (EX.out.trans hx5)
                    have HKO := hid_ hko
                    have HKS := hid_ hks
                    obtain ⟨ka, kc, rfl, _, k2, _⟩ := hks.open
                    unfold maxLen at k2
                    obtain ⟨a0, a1, ea⟩ := boxM_facts w5 N (.slice ka ks.length kc)
                    obtain ⟨kb, hkb⟩ : ∃ kb, w5.heap.size = kb := ⟨_, rfl⟩
                    have asz : (w5.alloc (.cells #[.int .i64 N, .slice ka ks.length kc] 27)).heap.size = kb + 1 := by simp [hkb]
                    rw [hkb] at a0 a1
                    have c0 := ea.cell c0
                    have c1 := ea.cell c1
                    have c2 := ea.cell c2
                    have c3 := ea.cell c3
                    have c4 := ea.cell c4
                    have q0 := ea.cell q0
                    have q1 := ea.cell q1
                    have q2 := ea.cell q2
                    have EX := hid_ (EX.out.trans ea)
                    have HKS := hid_ (HKS.out.ex ea)
                    clear hx5 hko hks ea
                    go_wp2_with fail
                    try simp only [hkb]
                    generalize w5.alloc (.cells #[.int .i64 N, .slice ka ks.length kc] 27) = w6 at *
                    clear hkb
                    have HKMK := hid_ (show mchkS (pn ^ mn) N ks = 0 from by
                      obtain ⟨h1, h2, _⟩ := HKO.out
                      have e1 : (ks.all fun r => decide ((r.length : Int) = (N : Int))) = true := List.all_eq_true.2 fun t ht => decide_eq_true (by have := (h2 t ht).1; omega)
                      have e2 : (ks.all fun r => entS (pn ^ mn) r == 0) = true := List.all_eq_true.2 fun t ht => by rw [(h2 t ht).2]; rfl
                      unfold mchkS
                      rw [if_neg (by have := HN64.out; omega), if_pos e1, if_pos e2])
                    have HEX6 := hid_ EX.out
                    refine (Vec_any pn mn N ml mv w6 (HMV.out.ex EX.out) l0 _ (H0.out.ex EX.out) ks _ HKS.out HFL.out HKMK.out HN1.out).mono ?_
                    rintro e w7 ⟨hvo, hx7⟩
                    have c0 := hx7.cell c0
                    have c1 := hx7.cell c1
                    have c2 := hx7.cell c2
                    have c3 := hx7.cell c3
                    have c4 := hx7.cell c4
                    have q0 := hx7.cell q0
                    have q1 := hx7.cell q1
                    have q2 := hx7.cell q2
                    have a0 := hx7.cell a0
                    have a1 := hx7.cell a1
                    have EX := hid_ (EX.out.trans hx7)
                    have HKS := hid_ (HKS.out.ex hx7)
                    have EX7 := hid_ hx7
                    have HSZ6 := hid_ asz
                    have EX6 := hid_ HEX6.out
                    clear hx7 asz
                    rcases hvo with ⟨hno, ev, hev, rfl⟩ | ⟨hl0, he0, g, rfl, hown⟩
                    · have hb9 : (ev != 0) = true := by simpa using hev
                      have HNO := hid_ hno
                      clear hno hev
                      have HCK := hid_ (show ChkOut pn mn ml N ks 0 from .inl ⟨pn, mn, rfl, rfl, HFL.out, HKMK.out.symm⟩)
                      go_wp2_with fail
                      refine (rChkM_any (pn : Int) (mn : Int) ml mv w7 (HMV.out.ex EX.out) N ks _ HKS.out).mono ?_
                      rintro e w8 ⟨ec, rfl, hec, hx8⟩
                      obtain rfl := hec.unique HCK.out
                      have c0 := hx8.cell c0
                      have c1 := hx8.cell c1
                      have c2 := hx8.cell c2
                      have c3 := hx8.cell c3
                      have c4 := hx8.cell c4
                      have q0 := hx8.cell q0
                      have a0 := hx8.cell a0
                      have a1 := hx8.cell a1
                      have EX := hid_ (EX.out.trans hx8)
                      clear hx8 hec
                      go_wp2_with fail
                      refine (rVector_any (mv := mv) w8 (HMV.out.ex EX.out) HFS.out l0 _ (H0.out.ex EX.out) ks.length).mono ?_
                      rintro e w9 ⟨e9, rfl, he9, hx9⟩
                      have h9 : (e9 != 0) = true := by simpa using fun h => HNO.out (he9.1 h)
                      clear he9
                      go_wp2_with fail
                      go_ret
                      exact ⟨rfl, EX.out.trans hx9⟩
                    · have HCK := hid_ (show ChkOut pn mn ml N ks 0 from .inl ⟨pn, mn, rfl, rfl, HFL.out, HKMK.out.symm⟩)
                      have HFR := hid_ (fun j => vecF_rng (p := pn) (m := mn) (ml := ml) HFS.out.p2 l0 ks ks.length j)
                      have HKR := hid_ (show ∀ (i : Nat) (r : List Int), ks[i]? = some r → r.length = N from fun i r h => (HKO.out.2.1 r (List.mem_of_getElem? h)).1)
                      have HFF := hid_ (fun j (hj : N ≤ j) => vecF_far (p := pn) (m := mn) (ml := ml) (x := l0) HKR.out hj ks.length)
                      have HFS0 := hid_ (show ∀ r ∈ rows, kdot pn mn ml r (il N (vecF pn mn ml l0 ks ks.length)) 0 = 0 from
                        sol_rows (fun j r h => (HROWL.out j r h).1) fun i hi => by
                          have hri : rows[i]? = some (rows[i]) := List.getElem?_eq_getElem hi
                          rw [dt_symm]
                          refine vecF_dt HFS.out.p2 l0 ks _ ks.length fun t ht => ?_
                          have hkt : ks[t]? = some (ks[t]) := List.getElem?_eq_getElem ht
                          have := HKO.out.2.2 _ (List.getElem_mem ht) _ (List.getElem_mem hi)
                          rw [dt_symm]
                          unfold dt
                          rw [rowsF_il hri (HROWL.out i _ hri).1, rowsF_il hkt (HKR.out t _ hkt)]
                          exact this)
                      obtain ⟨F, hF⟩ : ∃ F, vecF pn mn ml l0 ks ks.length = F := ⟨_, rfl⟩
                      rw [hF] at HFR HFF HFS0 hown
                      clear hF hl0 he0
                      go_wp2_with fail
                      refine (rChkM_any (pn : Int) (mn : Int) ml mv w7 (HMV.out.ex EX.out) N ks _ HKS.out).mono ?_
                      rintro e w8 ⟨ec, rfl, hec, hx8⟩
                      obtain rfl := hec.unique HCK.out
                      have c0 := hx8.cell c0
                      have c1 := hx8.cell c1
                      have c2 := hx8.cell c2
                      have c3 := hx8.cell c3
                      have c4 := hx8.cell c4
                      have q0 := hx8.cell q0
                      have q1 := hx8.cell q1
                      have q2 := hx8.cell q2
                      have a0 := hx8.cell a0
                      have a1 := hx8.cell a1
                      have EX := hid_ (EX.out.trans hx8)
                      have HX6 := hid_ (EX7.out.trans hx8)
                      have hown := hown.ex hx8
                      clear hx8 hec EX7
                      have HOWX := hid_ hown
                      have HSLX := hid_ (show Sl w8 (.slice (some ⟨g, 0, none⟩) N N) N 1 (vs N (iv F)) from hown.sl)
                      have HON := hid_ (show ∀ u ∈ vs N (iv F), u.oneCell' = true from by
                        intro u hu; unfold vs at hu; obtain ⟨z, _, rfl⟩ := List.mem_map.1 hu; rfl)
                      have hN64 := HN64.out
                      have C0 := hid_ c0
                      have C1 := hid_ c1
                      have C2 := hid_ c2
                      have C3 := hid_ c3
                      have C4 := hid_ c4
                      have Q18 := hid_ q1
                      have Q28 := hid_ q2
                      clear hown
                      go_wp2_with (at_builtin; refine wpList_append_sl _ rfl _ _ 22 rfl w8.heap.size 3 (.int .i64 0) 1 8 Try.underlying22 infoInt rfl (by decide) _ 0 [] rfl (own_lit0 w8 3) (.slice (some ⟨g, 0, none⟩) N N) N (vs N (iv F)) rfl (HSLX.out.ex ((Ex.refl w8).alloc _)) HON.out (by unfold maxLen; omega) (by omega) (by simp) ?_)
                      intro v1 w9 hown1 hg1 ha1
                      have hx9 : Ex w8 w9 := Ex.grown ((Ex.refl w8).alloc _) (own_lit0 w8 3) (Nat.le_refl _) hg1
                      try simp only [List.nil_append, Nat.zero_add] at hown1
                      obtain ⟨ob, oc, rfl, hown2⟩ := ownC_of hown1 HN1.out
                      have HOB := hid_ (show w8.heap.size ≤ ob from hown2.lt.1)
                      have c0 := hx9.cell c0
                      have c1 := hx9.cell c1
                      have c2 := hx9.cell c2
                      have c3 := hx9.cell c3
                      have c4 := hx9.cell c4
                      have q1 := hx9.cell q1
                      have q2 := hx9.cell q2
                      have HO0 := hid_ (show OwnC w9 w8.heap.size 3 ob N oc (iv (mixK F l1 l2 0)) from by rw [mixK_zero]; exact hown2)
                      have HX0 := hid_ hx9
                      have EX8 := hid_ EX.out
                      clear EX hown1 hown2 hg1 ha1 hx9 q0 a0 a1 HON
                      try simp only [Nat.zero_add]
                      go_wp2_with fail
                      clear c0 c1 c2 c3 c4 q1 q2
                      go_loopw [128] (fun k' wr => ∃ (k : Nat), k ≤ l1.length ∧ k' = .int .i64 k ∧ Hid (OwnC wr w8.heap.size 3 ob N oc (iv (mixK F l1 l2 k))) ∧ Hid (Ex w8 wr)) (fun k' _ => l1.length - (intOf k').toNat)
                      case atStart => exact ⟨0, by omega, rfl, HO0, HX0⟩
                      case round =>
                        clear HO0 HX0
                        obtain ⟨k, hk, rfl, hown, hx⟩ := hrel
                        by_cases hkl : k < l1.length
                        · obtain ⟨x, hxk⟩ : ∃ x, l1[k]? = some x := ⟨_, List.getElem?_eq_getElem hkl⟩
                          obtain ⟨y1, y2⟩ := risB_rng HRS.out k x hxk
                          obtain ⟨X, rfl⟩ : ∃ X : Nat, x = X := ⟨x.toNat, by omega⟩
                          have hXN : X < N := by omega
                          obtain ⟨_, _, e1, _, _, h3⟩ := (H1.out.ex (EX8.out.trans hx.out)).open
                          injection e1 with e1 e2 e3
                          subst e1 e3
                          obtain ⟨eb, eo, rfl, hec⟩ := h3 (by omega)
                          have d1 := hec k X hxk
                          obtain ⟨_, _, e1, _, _, h3⟩ := (H2.out.ex (EX8.out.trans hx.out)).open
                          injection e1 with e1 e2 e3
                          subst e1 e3
                          have hl2 := HL2N.out
                          obtain ⟨zb, zo, rfl, hzc⟩ := h3 (by omega)
                          have hl2x : l2[X]? = some (l2.getD X 0) := by rw [List.getD_eq_getElem?_getD, List.getElem?_eq_getElem (by omega)]; rfl
                          have d2 := hzc X _ hl2x
                          have i1 : (0 : Int) ≤ (k : Int) := by omega
                          have i2 : (k : Int) < (l1.length : Int) := by omega
                          have i3 : (X : Int) < (l2.length : Int) := by omega
                          have i4 : (X : Int) < (N : Int) := by omega
                          have c1 := hown.out.cell hXN
                          have c2 := hown.out.frz X
                          have hcp := hown.out.caps
                          obtain ⟨k1, k2⟩ := hcp
                          unfold maxLen at k2
                          have HS := hid_ (show OwnC (wr.setCell ⟨ob, X, none⟩ (.int .i64 (l2.getD X 0))) w8.heap.size 3 ob N oc (iv (mixK F l1 l2 (k + 1))) from by
                            rw [mixK_succ hxk, ← iv_upd]; exact hown.out.set X _)
                          have HX := hid_ (hown.out.exSet (a := w8) (Nat.le_refl _) hx.out X (.int .i64 (l2.getD X 0)))
                          have q1 := hx.out.cell (show w8.cell? ⟨xb + 1 + 1, 1, none⟩ = _ from Q18.out)
                          have q2 := hx.out.cell (show w8.cell? ⟨xb + 1 + 1, 2, none⟩ = _ from Q28.out)
                          obtain ⟨Y, hY⟩ : ∃ Y, l2.getD X 0 = Y := ⟨_, rfl⟩
                          rw [hY] at d2 HS HX
                          clear hown hx hec hzc h3 hl2x hl2 hY
                          go_wp2_with fail
                          go_roundw
                          case rel => exact ⟨k + 1, by omega, by go_num, HS, HX⟩
                          case measure => simp [intOf]; omega
                        · obtain rfl : k = l1.length := by omega
                          have HWI := hid_ hown.out.isl
                          have hcp := hown.out.caps
                          obtain ⟨k1, k2⟩ := hcp
                          unfold maxLen at k2
                          have c0 := hx.out.cell C0.out
                          have c1 := hx.out.cell C1.out
                          have c2 := hx.out.cell C2.out
                          have c3 := hx.out.cell C3.out
                          have c4 := hx.out.cell C4.out
                          have q1 := hx.out.cell (show w8.cell? ⟨xb + 1 + 1, 1, none⟩ = _ from Q18.out)
                          have EX := hid_ (EX8.out.trans hx.out)
                          have HX8 := hid_ hx.out
                          have HOWX := hid_ (HOWX.out.ex hx.out)
                          clear hown hx hkl
                          go_wp2_with fail
                          refine (Peel_anyO pn mn ml mv wr (HMV.out.ex EX.out) N rows _ (HV.out.ex EX.out) _ l1 _ _ HWI.out (H1.out.ex EX.out)).mono ?_
                          rintro e wp ⟨Y, L, yv, lv, pe, rfl, hp, hY, hL, hxp, hyf, hlf⟩
                          obtain ⟨rfl, hYN, hLR, hYL, hYE⟩ := recovers HFL.out HMK.out HN1.out HN64.out HFR.out HFF.out HFS0.out HRS.out HL2N.out HL2E.out hp
                          have c3 := hxp.cell c3
                          have c4 := hxp.cell c4
                          have EX := hid_ (EX.out.trans hxp)
                          have HOWX0 := hid_ HOWX.out.lt.2
                          have HOWX := hid_ (HOWX.out.ex hxp)
                          have HLF := hid_ hlf
                          have HXP := hid_ hxp
                          have HYI := hid_ hY
                          have HLI := hid_ hL
                          obtain ⟨ya5, yc5, rfl, _, _, _⟩ := hY.open
                          obtain ⟨la5, lc5, rfl, _, lq, _⟩ := hL.open
                          unfold maxLen at lq
                          have HYN := hid_ hYN
                          have HLR := hid_ hLR
                          have HYL := hid_ hYL
                          have HYE := hid_ hYE
                          have HYF := hid_ hyf
                          have HRI2 := hid_ (Rising_any wp L _ (N : Int) hL)
                          rw [HLR.out] at HRI2
                          have hb1 : (Y.length != N) = false := by simp [HYN.out]
                          have hb2 : ((Y.length : Int) != (N : Int)) = false := by simp [HYN.out]
                          clear hxp hp hY hL hyf hlf hYN hLR hYL hYE c0 c1 c2 q1
                          go_wp2_with (go_at_call 37; refine HRI2.out.mono ?_; rintro e w' ⟨rfl, qd, rfl⟩; have c3 := ((Ex.refl wp).drewN qd).cell c3; have c4 := ((Ex.refl wp).drewN qd).cell c4)
                          have hgl := HOWX0.out
                          have HYA := hid_ (show 0 < Y.length → ∀ b o c, Value.slice ya5 Y.length yc5 = .slice (some ⟨b, o, none⟩) Y.length c → b ≠ g from fun _ b o c e h => by
                            injection e with e1 _ _
                            subst h
                            have := HYF.out b (by rw [e1]; rfl)
                            omega)
                          have HLA := hid_ (show 0 < L.length → ∀ b o c, Value.slice la5 L.length lc5 = .slice (some ⟨b, o, none⟩) L.length c → b ≠ g from fun _ b o c e h => by
                            injection e with e1 _ _
                            subst h
                            have := HLF.out b (by rw [e1]; rfl)
                            omega)
                          have HXQ := hid_ ((Ex.refl wp).drewN qd)
                          have HOW0 := hid_ (show Own (wp.drewN qd) w6.heap.size 3 g N (iv (x0K (il N F) L 0)) from (HOWX.out.ex HXQ.out).icongr fun j hj => by
                            unfold x0K; rw [List.take_zero, if_neg (by simp), il_getD hj])
                          have HY0 := hid_ (HYI.out.ex HXQ.out)
                          have HL0 := hid_ (HLI.out.ex HXQ.out)
                          have HX0 := hid_ (((HX6.out.trans HX8.out).trans HXP.out).trans HXQ.out)
                          have EX6 := hid_ EX6.out
                          clear hgl c3 c4
                          generalize wp.drewN qd = wq at *
                          go_loopw [169] (fun k' wr => ∃ (k : Nat), k ≤ L.length ∧ k' = .int .i64 k ∧ Hid (Own wr w6.heap.size 3 g N (iv (x0K (il N F) L k))) ∧ Hid (ISl wr (.slice ya5 Y.length yc5) Y) ∧ Hid (ISl wr (.slice la5 L.length lc5) L) ∧ Hid (Ex w6 wr)) (fun k' _ => L.length - (intOf k').toNat)
                          case atStart => exact ⟨0, by omega, rfl, HOW0, HY0, HL0, HX0⟩
                          case round =>
                            clear HOW0 HY0 HL0 HX0
                            obtain ⟨k, hk, rfl, hown, hyi, hli, hx⟩ := hrel
                            by_cases hkl : k < L.length
                            · obtain ⟨x, hxk⟩ : ∃ x, L[k]? = some x := ⟨_, List.getElem?_eq_getElem hkl⟩
                              obtain ⟨y1, y2⟩ := risB_rng HLR.out k x hxk
                              have hY0 := HYL.out k x hxk
                              obtain ⟨X, rfl⟩ : ∃ X : Nat, x = X := ⟨x.toNat, by omega⟩
                              rw [Int.toNat_natCast] at hY0
                              have hXN : X < N := by omega
                              have hYN := HYN.out
                              obtain ⟨_, _, e1, _, _, h3⟩ := hli.out.open
                              injection e1 with e1 e2 e3
                              subst e1 e3
                              obtain ⟨eb, eo, rfl, hec⟩ := h3 (by omega)
                              have d1 := hec k X hxk
                              obtain ⟨_, _, e1, _, _, h3⟩ := hyi.out.open
                              injection e1 with e1 e2 e3
                              subst e1 e3
                              obtain ⟨zb, zo, rfl, hzc⟩ := h3 (by omega)
                              have hl2x : Y[X]? = some 0 := by
                                rw [List.getD_eq_getElem?_getD, List.getElem?_eq_getElem (by omega)] at hY0
                                rw [List.getElem?_eq_getElem (by omega)]
                                exact congrArg some hY0
                              have d2 := hzc X _ hl2x
                              have i1 : (0 : Int) ≤ (k : Int) := by omega
                              have i2 : (k : Int) < (L.length : Int) := by omega
                              have i3 : (X : Int) < (Y.length : Int) := by omega
                              have i4 : (X : Int) < (N : Int) := by omega
                              have c1 := hown.out.cell hXN
                              have c2 := hown.out.frz X
                              have HS := hid_ (show Own (wr.setCell ⟨g, X, none⟩ (.int .i64 0)) w6.heap.size 3 g N (iv (x0K (il N F) L (k + 1))) from by
                                rw [x0K_succ hxk, ← iv_upd]; exact hown.out.set X _)
                              have HX := hid_ (hown.out.exSet (a := w6) (Nat.le_refl _) hx.out X (.int .i64 0))
                              have HYI := hid_ (show ISl (wr.setCell ⟨g, X, none⟩ (.int .i64 0)) (.slice (some ⟨zb, zo, none⟩) Y.length yc5) Y from Sl.setOff hyi.out HYA.out)
                              have HLI := hid_ (show ISl (wr.setCell ⟨g, X, none⟩ (.int .i64 0)) (.slice (some ⟨eb, eo, none⟩) L.length lc5) L from Sl.setOff hli.out HLA.out)
                              clear hown hx hec hzc h3 hl2x hY0 hyi hli hYN HYF HLF
                              go_wp2_with fail
                              go_roundw
                              case rel => exact ⟨k + 1, by omega, by go_num, HS, HYI, HLI, HX⟩
                              case measure => simp [intOf]; omega
                            · obtain rfl : k = L.length := by omega
                              have HSI := hid_ (SameInts_any wr (il N (x0K (il N F) L L.length)) Y _ _ hown.out.isl hyi.out)
                              have e7 : il N (x0K (il N F) L L.length) = Y := by
                                rw [HYE.out]
                                exact il_congr fun j hj => by unfold x0K x0F; rw [List.take_length]
                              rw [e7, show decide (Y = Y) = true by simp] at HSI
                              have HX := hid_ (EX6.out.trans hx.out)
                              clear hown hyi hli hx e7
                              go_wp2_with fail
                              refine HSI.out.mono ?_
                              rintro e wz ⟨rfl, qz, rfl⟩
                              go_wp2_with fail
                              go_ret
                              exact ⟨rfl, HX.out.drewN _⟩
                  · have hb9 : (le != 0) = true := by simpa using hl0
                    clear hl0
                    go_wp2_with (go_at_call 12; refine (awake_any _).mono ?_; rintro e w5 ⟨rfl, hx5⟩)
                    go_ret
                    exact ⟨rfl, EX.out.trans hx5⟩
                · have hri' : risB (N : Int) l1 = false := by simpa using hri
                  rw [hri'] at HRI
                  clear hri hri'
                  go_wp2_with (first | (go_at_call 37; refine HRI.out.mono ?_; rintro e w' ⟨rfl, qc, rfl⟩) | (go_at_call 12; refine (awake_any _).mono ?_; rintro e w4 ⟨rfl, hx4⟩))
                  go_ret
                  exact ⟨rfl, (EX.out.drewN _).trans hx4⟩
          · have hzb : (ec != 0) = true := by simpa using hz
            clear hz
            go_wp2_with (go_at_call 12; refine (awake_any _).mono ?_; rintro e w4 ⟨rfl, hx4⟩)
            go_ret
            exact ⟨rfl, EX.out.trans hx4⟩
end Go.Proofs.Ytpphaicbdeeacaa
