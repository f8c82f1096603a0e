/- Walk of EquivalenceFound (printed by gen_fnd.py). -/
import Derived.Test.YtgdmlmhpineibaaGreatZc46
import Derived.Test.YtgdmlmhpineibaaGreatZc49
import Derived.Test.YtgdmlmhpineibaaGreatZc52
namespace Go.Proofs.YtgdmlmhpineibaaGreat
set_option linter.unusedVariables false
set_option linter.unusedSimpArgs false
open Go.RowKit

theorem ordS_nat {p m : Nat} {ml : List Int} (h : FSh p m ml) : ordS p m = ((p ^ m : Nat) : Int) := by
  unfold ordS
  have h1 : ((p : Int) ^ (m : Int).toNat) = ((p ^ m : Nat) : Int) := by simp
  have h2 := h.p2
  have h3 := h.m1
  have h4 := h.m8
  have h5 := h.q
  rw [h1, if_pos (by omega)]
theorem slot_at {w : World} {v : Value} {l : List Int} (h : ISl w v l) {i : Nat} (hi : i < l.length) : ∃ b o, (∃ c, v = .slice (some ⟨b, o, none⟩) l.length c) ∧ w.cell? ⟨b, o + i, none⟩ = some (.int .i64 (l.getD i 0)) := by
  obtain ⟨a, c, rfl, -, -, h3⟩ := h.open
  obtain ⟨b, o, rfl, h4⟩ := h3 (by omega)
  exact ⟨b, o, ⟨c, rfl⟩, h4 i _ (get_getD hi)⟩
set_option maxRecDepth 100000 in
set_option maxHeartbeats 16000000 in
theorem EquivalenceFound_any (w : World) (c : CdV) (m1 v1 : Value) (hc : c.at w m1 v1) (pv uv : Value) (pl ul : List Int) (fr : Int) (hp : ISl w pv pl) (hu : ISl w uv ul) (T : Nat) (hT : T ≤ 255) :
    Calls Tryz.prog 9 #[c.arg m1 v1, .agg #[pv, uv, .int .i64 fr], .int .u8 T] w fun r w' => r = .returned (.bool true) ∧ Ex w w' := by
  obtain ⟨c0, c1, c2, c3, c4⟩ := boxC5 w c m1 v1
  obtain ⟨b0, b1, b2, e2⟩ := boxMo_facts (w.alloc (c.obj m1 v1)) pv uv fr
  have hz1 : (w.alloc (c.obj m1 v1)).heap.size = w.heap.size + 1 := by simp
  have e1 := e_al w (c.obj m1 v1)
  rw [hz1] at b0 b1 b2
  replace c0 := e2.cell c0
  replace c1 := e2.cell c1
  replace c2 := e2.cell c2
  replace c3 := e2.cell c3
  replace c4 := e2.cell c4
  have HX := hid_ (e1.trans e2)
  have HAW := hid_ (fun w' => awake_any w')
  have HF1 := hid_ (fun (w' : World) (h : Ex w w') => few31_any w' c m1 v1 (hc.ex h))
  have HCK := hid_ (fun (w' : World) (h : Ex w w') => rChk12_any w' c.p c.m c.ml m1 (hc.ex h).m c.n c.rows v1 (hc.ex h).g)
  have HSM := hid_ (fun (w' : World) (h : Ex w w') => rSmall_any w' c m1 v1 (hc.ex h))
  have HMC := hid_ (fun (w' : World) (h : Ex w w') => rMCheck_any w' c.p c.m c.ml m1 (hc.ex h).m c.n pl ul pv uv (hp.ex h) (hu.ex h) fr)
  have HAP := hid_ (fun (w' : World) (h : Ex w w') => Apply_any w' c.p c.m c.ml m1 (hc.ex h).m c.n c.rows v1 (hc.ex h).g pl ul pv uv (hp.ex h) (hu.ex h) fr)
  have HC := hid_ hc
  have HPV := hid_ hp
  have HUV := hid_ hu
  obtain ⟨pa, pc, rfl, p1, p2, -⟩ := hp.open
  obtain ⟨ua, uc, rfl, u1, u2, -⟩ := hu.open
  obtain ⟨x1, y1, rfl, -, z1, -⟩ := hc.g.open
  obtain ⟨x3, y3, rfl, -, z3, -⟩ := hc.m.open
  unfold maxLen at p2 u2 z1 z3
  obtain ⟨p, m, ml, n, rows⟩ := c
  obtain ⟨B, hB⟩ : ∃ B, w.heap.size = B := ⟨_, rfl⟩
  rw [hB] at c0 c1 c2 c3 c4 b0 b1 b2
  dsimp only [CdV.arg, CdV.obj] at *
  obtain ⟨E2, hE2⟩ : ∃ E, monS p m ml n pl ul fr = E := ⟨_, rfl⟩
  rw [hE2] at HMC
  have HE2 := hid_ hE2
  clear hc hp hu e1 e2 hz1 hE2
  go_enter Tryz.func9, Tryz.ntmps9
  go_upto_region 1 with fail
  try simp only [hB]
  clear hB
  generalize (w.alloc (.cells #[.int .i64 p, .int .i64 m, .slice x3 ml.length y3, .int .i64 n, .slice x1 rows.length y1] 47)).alloc (.cells #[.slice pa pl.length pc, .slice ua ul.length uc, .int .i64 fr] 26) = w1 at *
  have HALL := hid_ (fun w' (h : Ex w1 w') => (⟨h.cell c0, h.cell c1, h.cell c2, h.cell c3, h.cell c4, h.cell b0, h.cell b1, h.cell b2⟩ : _ ∧ _ ∧ _ ∧ _ ∧ _ ∧ _ ∧ _ ∧ _))
  have bad : ∀ w', Ex w1 w' → Calls Tryz.prog 12 #[] w' fun r w'' => r = .returned (.bool true) ∧ Ex w1 w'' := fun w' h => (HAW.out w').mono fun r w'' ⟨h1, h2⟩ => ⟨h1, h.trans h2⟩
  have BAD := hid_ bad
  have HX1 := hid_ (Ex.refl w1)
  clear bad
  go_wp2_with fail
  refine (HAW.out w1).mono ?_
  rintro e w2 ⟨rfl, hx2⟩
  have HX2 := hid_ (HX1.out.trans hx2)
  clear hx2 c0 c1 c2 c3 c4 b0 b1 b2
  obtain ⟨c0, c1, c2, c3, c4, b0, b1, b2⟩ := HALL.out w2 HX2.out
  go_wp2_with fail
  refine (HF1.out w2 (HX.out.trans HX2.out)).mono ?_
  rintro e w3 ⟨⟨f1, rfl, hf1⟩, hx3⟩
  have HX3 := hid_ (HX2.out.trans hx3)
  have HF2 := hid_ hf1
  clear hf1
  clear hx3 c0 c1 c2 c3 c4 b0 b1 b2
  obtain ⟨c0, c1, c2, c3, c4, b0, b1, b2⟩ := HALL.out w3 HX3.out
  cases f1 with
  | false =>
    go_wp2_with fail
    refine (BAD.out _ HX3.out).mono ?_
    rintro e w99 ⟨rfl, hx99⟩
    have HX99 := hid_ hx99
    clear hx99
    go_wp2_with fail
    go_ret
    exact ⟨rfl, HX.out.trans HX99.out⟩
  | true =>
    have HFW := hid_ (HF2.out.1 rfl)
    clear HF2
    go_wp2_with fail
    refine (HCK.out w3 (HX.out.trans HX3.out)).mono ?_
    rintro e w4 ⟨⟨E1, rfl, ho1⟩, hx4⟩
    have HX4 := hid_ (HX3.out.trans hx4)
    have HO1 := hid_ ho1
    clear ho1
    clear hx4 c0 c1 c2 c3 c4 b0 b1 b2
    obtain ⟨c0, c1, c2, c3, c4, b0, b1, b2⟩ := HALL.out w4 HX4.out
    by_cases z1 : E1 = 0
    rotate_left
    · have y1 : (E1 != 0) = true := by simpa using z1
      clear z1
      go_wp2_with fail
      refine (BAD.out _ HX4.out).mono ?_
      rintro e w99 ⟨rfl, hx99⟩
      have HX99 := hid_ hx99
      clear hx99
      go_wp2_with fail
      go_ret
      exact ⟨rfl, HX.out.trans HX99.out⟩
    · subst z1
      go_wp2_with fail
      refine (HSM.out w4 (HX.out.trans HX4.out)).mono ?_
      rintro e w5 ⟨⟨f2, rfl, hf2⟩, hx5⟩
      have HX5 := hid_ (HX4.out.trans hx5)
      have HF3 := hid_ hf2
      clear hf2
      clear hx5 c0 c1 c2 c3 c4 b0 b1 b2
      obtain ⟨c0, c1, c2, c3, c4, b0, b1, b2⟩ := HALL.out w5 HX5.out
      cases f2 with
      | false =>
        go_wp2_with fail
        refine (BAD.out _ HX5.out).mono ?_
        rintro e w99 ⟨rfl, hx99⟩
        have HX99 := hid_ hx99
        clear hx99
        go_wp2_with fail
        go_ret
        exact ⟨rfl, HX.out.trans HX99.out⟩
      | true =>
        have HSL := hid_ (HF3.out.1 rfl)
        clear HF3
        by_cases z1 : fr = 0
        rotate_left
        · have y1 : (fr != 0) = true := by simpa using z1
          clear z1
          go_wp2_with fail
          refine (BAD.out _ HX5.out).mono ?_
          rintro e w99 ⟨rfl, hx99⟩
          have HX99 := hid_ hx99
          clear hx99
          go_wp2_with fail
          go_ret
          exact ⟨rfl, HX.out.trans HX99.out⟩
        · subst z1
          go_wp2_with fail
          refine (HMC.out w5 (HX.out.trans HX5.out)).mono ?_
          rintro e w6 ⟨rfl, hx6⟩
          have HX6 := hid_ (HX5.out.trans hx6)
          clear hx6 c0 c1 c2 c3 c4 b0 b1 b2
          obtain ⟨c0, c1, c2, c3, c4, b0, b1, b2⟩ := HALL.out w6 HX6.out
          by_cases z1 : E2 = 0
          rotate_left
          · have y1 : (E2 != 0) = true := by simpa using z1
            clear z1
            go_wp2_with fail
            refine (BAD.out _ HX6.out).mono ?_
            rintro e w99 ⟨rfl, hx99⟩
            have HX99 := hid_ hx99
            clear hx99
            go_wp2_with fail
            go_ret
            exact ⟨rfl, HX.out.trans HX99.out⟩
          · subst z1
            obtain ⟨pn, mn, N, rfl, rfl, rfl, hsh, hI, n1, n64, k256, q2⟩ := codO_two HO1.out
            have HSH := hid_ (show FSh pn mn ml ∧ IsF pn mn (lw ml) from ⟨hsh, hI⟩)
            have hmk := mon_ok HE2.out
            have hpl : pl.length = N := by omega
            have hul : ul.length = N := by omega
            have HLN := hid_ (show pl.length = N ∧ ul.length = N from ⟨hpl, hul⟩)
            have HN := hid_ (show 1 ≤ N ∧ N ≤ 64 from ⟨n1, n64⟩)
            have hq16 : pn ^ mn ≤ 16 := by
              have h1 : ordS pn mn ≤ 16 := HFW.out.2.2
              have h2 := ordS_nat hsh
              omega
            have HQ16 := hid_ hq16
            have HSP := hid_ (show SmlP N (pn ^ mn) from by
              have h1 : SmlP (N : Int) (ordS pn mn).toNat := HSL.out
              rw [ordS_nat hsh, Int.toNat_natCast] at h1
              exact h1)
            have HFB := hid_ (codO_fld HO1.out).1
            clear hsh hI k256 q2 hmk hpl hul hq16
            go_wp2_with fail
            refine (HAP.out w6 (HX.out.trans HX6.out)).mono ?_
            rintro e w20 ⟨hap, hx20⟩
            have HX20 := hid_ (HX6.out.trans hx20)
            clear hx20 c0 c1 c2 c3 c4 b0 b1 b2
            obtain ⟨c0, c1, c2, c3, c4, b0, b1, b2⟩ := HALL.out w20 HX20.out
            obtain ⟨piv, a', rv, v', rfl, hel, hv', hrv⟩ := app_ok hap HO1.out HE2.out
            have HEL := hid_ hel
            clear hel hap
            obtain ⟨D2, hD2⟩ : ∃ D, rowsL N piv.length a' = D := ⟨_, rfl⟩
            rw [hD2] at hrv
            have HD2 := hid_ hD2
            clear hD2
            obtain ⟨d0, d1, d2, d3, d4⟩ := boxC5 w20 ⟨pn, mn, ml, N, D2⟩ v' rv
            have eb := e_al w20 ((⟨pn, mn, ml, N, D2⟩ : CdV).obj v' rv)
            have HDA := hid_ (show (⟨pn, mn, ml, N, D2⟩ : CdV).at (w20.alloc ((⟨pn, mn, ml, N, D2⟩ : CdV).obj v' rv)) v' rv from ⟨hv'.ex eb, hrv.ex eb⟩)
            obtain ⟨va, vc, rfl, -, -, -⟩ := hv'.open
            obtain ⟨ra, rc, rfl, -, -, -⟩ := hrv.open
            have HX21 := hid_ (HX20.out.trans eb)
            obtain ⟨DB, hDB⟩ : ∃ D, w20.heap.size = D := ⟨_, rfl⟩
            rw [hDB] at d0 d1 d2 d3 d4
            dsimp only [CdV.obj] at d0 d1 d2 d3 d4 HX21 HDA
            clear eb hv' hrv c0 c1 c2 c3 c4 b0 b1 b2
            go_upto_region 4 with fail
            try simp only [hDB]
            clear hDB
            generalize w20.alloc (.cells #[.int .i64 pn, .int .i64 mn, .slice va ml.length vc, .int .i64 N, .slice ra D2.length rc] 47) = w21 at *
            obtain ⟨c0, c1, c2, c3, c4, b0, b1, b2⟩ := HALL.out w21 HX21.out
            have HDC := hid_ (fun w' (h : Ex w21 w') => (⟨h.cell d0, h.cell d1, h.cell d2, h.cell d3, h.cell d4⟩ : _ ∧ _ ∧ _ ∧ _ ∧ _))
            obtain ⟨K, hK⟩ : ∃ K, T % (N + 1) = K := ⟨_, rfl⟩
            have hKN : K ≤ N := by have := Nat.mod_lt T (show 0 < N + 1 by omega); omega
            have hKt : ((T : Int)).tmod ((N : Int) + 1) = (K : Int) := by
              rw [Int.tmod_eq_emod_of_nonneg (by omega), ← hK]; push_cast; rfl
            have hn0 : ¬ ((N : Int) + 1 = 0) := by omega
            have hK0 : (0 : Int) ≤ (K : Int) := by omega
            have hKp : (K : Int) ≤ (pc : Int) := by have := HLN.out; omega
            have hKu : (K : Int) ≤ (uc : Int) := by have := HLN.out; omega
            have HKN := hid_ hKN
            clear hK hKN
            go_upto_region 5 with fail
            go_cut [10] from 59 to 67 (fun s wx => ∃ G : Nat, s = .pointer (some ⟨G, 0, none⟩) ∧ Hid (wx.cell? ⟨G, 0, none⟩ = some (.slice pa K pc) ∧ wx.cell? ⟨G, 1, none⟩ = some (.slice ua K uc)) ∧ Hid (Ex w21 wx))
            case first =>
              have b0x := fun o => ((Ex.refl w21).alloc o).cell b0
              have b1x := fun o => ((Ex.refl w21).alloc o).cell b1
              go_region
              all_goals go_wp2_with fail
              all_goals go_meet
              all_goals exact ⟨_, rfl, hid_ ⟨by simp, by simp⟩, hid_ ((Ex.refl w21).alloc _).drew⟩
            case rest =>
              obtain ⟨G, rfl, hg, hxc⟩ := hcut
              have HXC := hid_ (HX21.out.trans hxc.out)
              have HGC := hid_ (fun w' (h : Ex wc w') => (⟨h.cell hg.out.1, h.cell hg.out.2⟩ : _ ∧ _))
              have HDD := hid_ (fun w' (h : Ex wc w') => HDC.out w' (hxc.out.trans h))
              have HDE := hid_ (HDA.out.ex hxc.out)
              clear hK0 hKp hKu hn0 hKt hg HDC HDA hxc c0 c1 c2 c3 c4 b0 b1 b2 d0 d1 d2 d3 d4
              obtain ⟨c0, c1, c2, c3, c4, b0, b1, b2⟩ := HALL.out wc HXC.out
              obtain ⟨d0, d1, d2, d3, d4⟩ := HDD.out wc (Ex.refl wc)
              obtain ⟨g0, g1⟩ := HGC.out wc (Ex.refl wc)
              have HTK := hid_ (show (pl.take K).length = K ∧ (ul.take K).length = K from by
                have := HLN.out
                have := HKN.out
                rw [List.length_take, List.length_take]; omega)
              have HFI := hid_ (Find_any wc ⟨pn, mn, ml, N, rows⟩ ⟨pn, mn, ml, N, D2⟩ _ _ _ _ (HC.out.ex (HX.out.trans HXC.out)) HDE.out (pl.take K) (ul.take K) (.slice pa K pc) (.slice ua K uc) (isl_take (HPV.out.ex (HX.out.trans HXC.out)) (by have := HLN.out; have := HKN.out; omega)) (isl_take (HUV.out.ex (HX.out.trans HXC.out)) (by have := HLN.out; have := HKN.out; omega)))
              dsimp only [CdV.arg] at HFI
              go_wp2_with fail
              refine HFI.out.mono ?_
              rintro e w22 ⟨⟨e1, e2, ho1, ho2, hmo⟩, hx22⟩
              simp only [Int.toNat_natCast] at hmo
              obtain ⟨nd, hf1, hf2, hfo⟩ := fnd_law (pl := pl) (ul := ul) HKN.out HFB.out HO1.out HQ16.out HSP.out HE2.out HEL.out HD2.out ho1 ho2
              rw [hf1, hf2] at hmo
              obtain ⟨u3, u4, rfl, hu3, hu4⟩ := hmo
              dsimp only at hu3 hu4 ⊢
              have HFO := hid_ hfo
              clear ho1 ho2 hf1 hf2 hfo HFI
              obtain ⟨na, nc, rfl, h31, h32, h33⟩ := hu3.open
              obtain ⟨oa, oc, rfl, h41, h42, h43⟩ := hu4.open
              unfold maxLen at h32 h42
              obtain ⟨m0, m1', m2, em⟩ := boxMo_facts w22 (.slice na nd.tl.length nc) (.slice oa nd.sc.length oc) 0
              have HX22 := hid_ (HXC.out.trans (hx22.trans em))
              have HY := hid_ (hx22.trans em)
              have HU3 := hid_ (hu3.ex em)
              have HU4 := hid_ (hu4.ex em)
              clear hx22 em hu3 hu4 h33 h43 c0 c1 c2 c3 c4 b0 b1 b2 d0 d1 d2 d3 d4 g0 g1
              obtain ⟨MB, hMB⟩ : ∃ D, w22.heap.size = D := ⟨_, rfl⟩
              rw [hMB] at m0 m1' m2
              go_upto_region 7 with fail
              try simp only [hMB]
              clear hMB
              generalize w22.alloc (.cells #[.slice na nd.tl.length nc, .slice oa nd.sc.length oc, .int .i64 0] 26) = w23 at *
              have HMO := hid_ (fun w' (h : Ex w23 w') => (⟨h.cell m0, h.cell m1', h.cell m2⟩ : _ ∧ _ ∧ _))
              obtain ⟨c0, c1, c2, c3, c4, b0, b1, b2⟩ := HALL.out w23 HX22.out
              obtain ⟨d0, d1, d2, d3, d4⟩ := HDD.out w23 HY.out
              obtain ⟨g0, g1⟩ := HGC.out w23 HY.out
              have HEX := hid_ (rExtends_any w23 nd.tl nd.sc (pl.take K) (ul.take K) _ _ (.slice pa K pc) (.slice ua K uc) 0 HU3.out HU4.out (isl_take (HPV.out.ex (HX.out.trans HX22.out)) (by have := HLN.out; have := HKN.out; omega)) (isl_take (HUV.out.ex (HX.out.trans HX22.out)) (by have := HLN.out; have := HKN.out; omega)))
              go_wp2_with fail
              refine HEX.out.mono ?_
              rintro e w24 ⟨⟨f5, rfl, hf5⟩, hx24⟩
              obtain rfl : f5 = true := hf5.2 HFO.out.ext
              have HX24 := hid_ (HX22.out.trans hx24)
              have HZ := hid_ hx24
              clear hx24 hf5 HEX c0 c1 c2 c3 c4 b0 b1 b2 d0 d1 d2 d3 d4 g0 g1 m0 m1' m2
              obtain ⟨c0, c1, c2, c3, c4, b0, b1, b2⟩ := HALL.out w24 HX24.out
              obtain ⟨m0, m1', m2⟩ := HMO.out w24 HZ.out
              have HAQ := hid_ (Apply_any w24 pn mn ml _ (HC.out.ex (HX.out.trans HX24.out)).m N rows _ (HC.out.ex (HX.out.trans HX24.out)).g nd.tl nd.sc _ _ (HU3.out.ex HZ.out) (HU4.out.ex HZ.out) 0)
              go_wp2_with fail
              refine HAQ.out.mono ?_
              rintro e w25 ⟨hap, hx25⟩
              obtain ⟨piv2, a2, rv2, v2, rfl, hel2, hv2, hrv2⟩ := app_ok hap HO1.out HFO.out.mon
              have hsame := HFO.out.same piv2 a2 hel2
              rw [hsame] at hrv2
              obtain ⟨y0, y1', y2, y3', y4⟩ := boxC5 w25 ⟨pn, mn, ml, N, D2⟩ v2 rv2
              have eb := e_al w25 ((⟨pn, mn, ml, N, D2⟩ : CdV).obj v2 rv2)
              have HDB := hid_ (show (⟨pn, mn, ml, N, D2⟩ : CdV).at (w25.alloc ((⟨pn, mn, ml, N, D2⟩ : CdV).obj v2 rv2)) v2 rv2 from ⟨hv2.ex eb, hrv2.ex eb⟩)
              obtain ⟨qa, qc, rfl, -, -, -⟩ := hv2.open
              obtain ⟨sa, sc, rfl, -, -, -⟩ := hrv2.open
              have HX25 := hid_ (HX24.out.trans (hx25.trans eb))
              have HZ2 := hid_ (HZ.out.trans (hx25.trans eb))
              obtain ⟨YB, hYB⟩ : ∃ D, w25.heap.size = D := ⟨_, rfl⟩
              rw [hYB] at y0 y1' y2 y3' y4
              dsimp only [CdV.obj] at y0 y1' y2 y3' y4 HX25 HDB HZ2
              clear eb hv2 hrv2 hel2 hap hsame hx25 HAQ c0 c1 c2 c3 c4 b0 b1 b2 m0 m1' m2
              go_upto_region 10 with fail
              try simp only [hYB]
              clear hYB
              generalize w25.alloc (.cells #[.int .i64 pn, .int .i64 mn, .slice qa ml.length qc, .int .i64 N, .slice sa D2.length sc] 47) = w26 at *
              obtain ⟨c0, c1, c2, c3, c4, b0, b1, b2⟩ := HALL.out w26 HX25.out
              obtain ⟨d0, d1, d2, d3, d4⟩ := HDD.out w26 (HY.out.trans HZ2.out)
              obtain ⟨m0, m1', m2⟩ := HMO.out w26 HZ2.out
              have HSA := hid_ (rCSame_any w26 ⟨pn, mn, ml, N, D2⟩ ⟨pn, mn, ml, N, D2⟩ _ _ _ _ HDB.out (HDE.out.ex (HY.out.trans HZ2.out)))
              rw [samC_iff.2 rfl] at HSA
              dsimp only [CdV.arg] at HSA
              go_wp2_with fail
              refine HSA.out.mono ?_
              rintro e w27 ⟨rfl, hx27⟩
              have HX27 := hid_ (HX25.out.trans hx27)
              have HZ3 := hid_ (HZ2.out.trans hx27)
              clear hx27 HSA c0 c1 c2 c3 c4 b0 b1 b2 d0 d1 d2 d3 d4 m0 m1' m2 y0 y1' y2 y3' y4
              obtain ⟨c0, c1, c2, c3, c4, b0, b1, b2⟩ := HALL.out w27 HX27.out
              obtain ⟨m0, m1', m2⟩ := HMO.out w27 HZ3.out
              have l1 : ((nd.tl.length : Int) != (N : Int)) = false := by have := HFO.out.l1; simp; omega
              have l2 : ((nd.sc.length : Int) != (N : Int)) = false := by have := HFO.out.l2; simp; omega
              obtain ⟨i0, hi0, heq, hlast⟩ := HFO.out.lex
              have HEQ := hid_ heq
              have HLA := hid_ hlast
              have HXW := hid_ (HX.out.trans HX27.out)
              have HL1 := HFO.out.l1
              have HL2 := HFO.out.l2
              have HP3 := hid_ (fun (i : Nat) (hi : i < N) => slot_at (HPV.out.ex HXW.out) (i := i) (by have := HLN.out; omega))
              have HU3x := hid_ (fun (i : Nat) (hi : i < N) => slot_at (HUV.out.ex HXW.out) (i := i) (by have := HLN.out; omega))
              have HN3 := hid_ (fun (i : Nat) (hi : i < N) => slot_at (HU3.out.ex HZ3.out) (i := i) (by rw [HL1]; exact hi))
              have HO3 := hid_ (fun (i : Nat) (hi : i < N) => slot_at (HU4.out.ex HZ3.out) (i := i) (by rw [HL2]; exact hi))
              have HLL := hid_ (show nd.tl.length = N ∧ nd.sc.length = N from ⟨HL1, HL2⟩)
              have HN64 := HN.out.2
              clear heq hlast HL1 HL2
              have HCE := hid_ (fun w' (h : Ex w27 w') => (⟨h.cell m0, h.cell m1', h.cell b0, h.cell b1⟩ : _ ∧ _ ∧ _ ∧ _))
              go_wp2_with fail
              clear c0 c1 c2 c3 c4 b0 b1 b2 m0 m1' m2
              go_loopw [119] (fun i' wr => ∃ (i n : Nat), i ≤ i0 ∧ i' = .int .i64 i ∧ wr = w27.drewN n) (fun i' _ => N - (intOf i').toNat)
              case atStart => exact ⟨0, 0, by omega, rfl, rfl⟩
              case round =>
                obtain ⟨i, n, hi, rfl, rfl⟩ := hrel
                by_cases hlt : i < N
                · obtain ⟨xb, xo, ⟨_, hx1⟩, hx2⟩ := HN3.out i hlt
                  obtain ⟨sb, so, ⟨_, hs1⟩, hs2⟩ := HO3.out i hlt
                  obtain ⟨pb, po, ⟨_, hp1⟩, hp2⟩ := HP3.out i hlt
                  obtain ⟨ub, uo, ⟨_, hu1⟩, hu2⟩ := HU3x.out i hlt
                  injection hx1 with hx1 z1 z2
                  clear z1 z2
                  injection hs1 with hs1 z1 z2
                  clear z1 z2
                  injection hp1 with hp1 z1 z2
                  clear z1 z2
                  injection hu1 with hu1 z1 z2
                  clear z1 z2
                  subst hx1 hs1 hp1 hu1
                  obtain ⟨W, hW⟩ : ∃ W, w27.drewN n = W := ⟨_, rfl⟩
                  rw [hW]
                  have HWE := hid_ (show Ex w27 W from by rw [← hW]; exact (Ex.refl w27).drewN n)
                  have HWN := hid_ hW
                  clear hW
                  have q1 := HWE.out.cell hx2
                  have q2 := HWE.out.cell hs2
                  have q3 := HWE.out.cell hp2
                  have q4 := HWE.out.cell hu2
                  obtain ⟨r1, r2, r3, r4⟩ := HCE.out W HWE.out
                  have i1 : (0 : Int) ≤ (i : Int) := by omega
                  have i2 : (i : Int) < (nd.tl.length : Int) := by have := HLL.out; omega
                  have i3 : (i : Int) < (nd.sc.length : Int) := by have := HLL.out; omega
                  have i4 : (i : Int) < (pl.length : Int) := by have := HLN.out; omega
                  have i5 : (i : Int) < (ul.length : Int) := by have := HLN.out; omega
                  obtain ⟨a1, ha1⟩ : ∃ y, nd.tl.getD i 0 = y := ⟨_, rfl⟩
                  obtain ⟨a2, ha2⟩ : ∃ y, nd.sc.getD i 0 = y := ⟨_, rfl⟩
                  obtain ⟨a3, ha3⟩ : ∃ y, pl.getD i 0 = y := ⟨_, rfl⟩
                  obtain ⟨a4, ha4⟩ : ∃ y, ul.getD i 0 = y := ⟨_, rfl⟩
                  rw [ha1] at q1
                  rw [ha2] at q2
                  rw [ha3] at q3
                  rw [ha4] at q4
                  have HQ := hid_ (show ∀ W2, Ex W W2 → _ ∧ _ ∧ _ ∧ _ ∧ _ ∧ _ ∧ _ ∧ _ from fun W2 h => ⟨h.cell q1, h.cell q2, h.cell q3, h.cell q4, h.cell r1, h.cell r2, h.cell r3, h.cell r4⟩)
                  have HRET := hid_ (HX.out.trans HX27.out)
                  clear hx2 hs2 hp2 hu2
                  by_cases hii : i < i0
                  · obtain ⟨g1, g2⟩ := HEQ.out i hii
                    have e1 : a1 = a3 := by rw [← ha1, ← ha3, g1]
                    have e2 : a2 = a4 := by rw [← ha2, ← ha4, g2]
                    subst e1 e2
                    have k5 : (a1 != a1) = false := by simp
                    have k6 : (a2 != a2) = false := by simp
                    clear g1 g2 ha1 ha2 ha3 ha4
                    go_wp2_with fail
                    go_quiet (fail)
                    generalize hW2 : World.drewN W _ = W2
                    have HW2 := hid_ (show Ex W W2 from by rw [← hW2]; exact (Ex.refl W).drewN _)
                    have HW2N := hid_ hW2
                    clear hW2 q1 q2 q3 q4 r1 r2 r3 r4
                    obtain ⟨q1, q2, q3, q4, r1, r2, r3, r4⟩ := HQ.out W2 HW2.out
                    go_wp2_with fail
                    go_quiet (fail)
                    go_wp2_with fail
                    go_roundw
                    case rel => first | exact ⟨i + 1, _, by omega, by go_num, by rw [← HW2N.out, ← HWN.out, World.drewN_drewN, World.drewN_drewN]⟩ | ((repeat apply Exists.intro); exact ⟨⟨i + 1, _, by omega, by go_num, by rw [← HW2N.out, ← HWN.out, World.drewN_drewN, World.drewN_drewN]⟩, rfl⟩)
                    case measure => simp [intOf]; omega
                  · obtain rfl : i = i0 := by omega
                    rcases HLA.out with h | h | ⟨h, h'⟩
                    · omega
                    · rw [ha1, ha3] at h
                      have k5 : (a1 != a3) = true := by simp; omega
                      have k6 : decide (a1 < a3) = true := decide_eq_true h
                      clear ha1 ha2 ha3 ha4 HEQ HLA
                      go_wp2_with fail
                      go_quiet (fail)
                      generalize hW2 : World.drewN W _ = W2
                      have HW2 := hid_ (show Ex W W2 from by rw [← hW2]; exact (Ex.refl W).drewN _)
                      clear hW2 q1 q2 q3 q4 r1 r2 r3 r4
                      obtain ⟨q1, q2, q3, q4, r1, r2, r3, r4⟩ := HQ.out W2 HW2.out
                      go_wp2_with fail
                      go_quiet (fail)
                      go_wp2_with fail
                      go_ret
                      exact ⟨rfl, HRET.out.trans (HWE.out.trans (HW2.out.drewN _))⟩
                    · rw [ha1, ha3] at h
                      rw [ha2, ha4] at h'
                      subst h
                      have k5 : (a1 != a1) = false := by simp
                      have k6 : (a2 != a4) = true := by simp; omega
                      have k7 : decide (a2 < a4) = true := decide_eq_true h'
                      clear ha1 ha2 ha3 ha4 HEQ HLA
                      go_wp2_with fail
                      go_quiet (fail)
                      generalize hW2 : World.drewN W _ = W2
                      have HW2 := hid_ (show Ex W W2 from by rw [← hW2]; exact (Ex.refl W).drewN _)
                      clear hW2 q1 q2 q3 q4 r1 r2 r3 r4
                      obtain ⟨q1, q2, q3, q4, r1, r2, r3, r4⟩ := HQ.out W2 HW2.out
                      go_wp2_with fail
                      go_quiet (fail)
                      generalize hW3 : World.drewN W2 _ = W3
                      have HW3 := hid_ (show Ex W W3 from by rw [← hW3]; exact HW2.out.drewN _)
                      clear hW3 q1 q2 q3 q4 r1 r2 r3 r4
                      obtain ⟨q1, q2, q3, q4, r1, r2, r3, r4⟩ := HQ.out W3 HW3.out
                      go_wp2_with fail
                      go_quiet (fail)
                      go_wp2_with fail
                      go_ret
                      exact ⟨rfl, HRET.out.trans (HWE.out.trans (HW3.out.drewN _))⟩
                · obtain rfl : i = N := by omega
                  go_wp2_with fail
                  go_ret
                  exact ⟨rfl, (HX.out.trans HX27.out).drewN _⟩
end Go.Proofs.YtgdmlmhpineibaaGreat
