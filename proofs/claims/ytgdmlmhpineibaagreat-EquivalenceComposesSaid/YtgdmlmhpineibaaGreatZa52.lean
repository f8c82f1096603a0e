/- Walks of chapter 31's short, EquivalenceMaps and EquivalenceComposes. -/
import Derived.Test.YtgdmlmhpineibaaGreatZa49
import Derived.Test.YtgdmlmhpineibaaGreatZa51
namespace Go.Proofs.YtgdmlmhpineibaaGreat
set_option linter.unusedVariables false
set_option linter.unusedSimpArgs false
open Go.RowKit

def shoB (pl sl : List Int) : Bool := decide (pl.length ≤ 100) && decide (sl.length ≤ 100)
set_option maxRecDepth 100000 in
set_option maxHeartbeats 4000000 in
theorem short_any (w : World) (pl sl : List Int) (pv sv : Value) (hp : ISl w pv pl) (hs : ISl w sv sl) (fr : Int) :
    Calls Tryz.prog 13 #[.agg #[pv, sv, .int .i64 fr]] w fun r w' => r = .returned (.bool (shoB pl sl)) ∧ Ex w w' := by
  obtain ⟨b0, b1, b2, eb⟩ := boxMo_facts w pv sv fr
  have HX := hid_ eb
  obtain ⟨pa, pc, rfl, -, q2, -⟩ := hp.open
  obtain ⟨sa, sc, rfl, -, s2, -⟩ := hs.open
  unfold maxLen at q2 s2
  obtain ⟨R, hR⟩ : ∃ R, shoB pl sl = R := ⟨_, rfl⟩
  have HR := hid_ (show R = (decide (pl.length ≤ 100) && decide (sl.length ≤ 100)) from hR.symm)
  rw [hR]
  clear hp hs eb hR
  by_cases h1 : pl.length ≤ 100
  · have k1 : decide ((pl.length : Int) ≤ 100) = true := by simp; omega
    have j1 : (pl.length : Int) ≤ 100 := by omega
    by_cases h2 : sl.length ≤ 100
    · have k2 : decide ((sl.length : Int) ≤ 100) = true := by simp; omega
      have j2 : (sl.length : Int) ≤ 100 := by omega
      have HE := hid_ (show R = true from by rw [HR.out]; simp [h1, h2])
      go_enter Tryz.func13, Tryz.ntmps13
      go_wp2_with fail
      go_ret
      exact ⟨by rw [HE.out]; rfl, HX.out⟩
    · have k2 : decide ((sl.length : Int) ≤ 100) = false := by simp; omega
      have j2 : ¬ (sl.length : Int) ≤ 100 := by omega
      have HE := hid_ (show R = false from by rw [HR.out]; simp [h2])
      go_enter Tryz.func13, Tryz.ntmps13
      go_wp2_with fail
      go_ret
      exact ⟨by rw [HE.out]; rfl, HX.out⟩
  · have k1 : decide ((pl.length : Int) ≤ 100) = false := by simp; omega
    have j1 : ¬ (pl.length : Int) ≤ 100 := by omega
    have HE := hid_ (show R = false from by rw [HR.out]; simp [h1])
    go_enter Tryz.func13, Tryz.ntmps13
    go_wp2_with fail
    go_ret
    exact ⟨by rw [HE.out]; rfl, HX.out⟩
theorem k_map2 (w : World) (M : MapV) (pv sv qv tv : Value) (hp : ISl w pv M.perm) (hs : ISl w sv M.scale) (hq : ISl w qv M.perm) (ht : ISl w tv M.scale) :
    Calls Tryz.prog 20 #[.agg #[pv, sv, .int .i64 M.frob], .agg #[qv, tv, .int .i64 M.frob]] w fun r w' => r = .returned (.bool true) ∧ Ex w w' :=
  (SameMap_any w M.perm M.scale M.perm M.scale pv sv qv tv hp hs hq ht M.frob M.frob).mono fun r w' ⟨h, hx⟩ => by
    rw [decide_eq_true ⟨rfl, rfl, rfl⟩] at h
    exact ⟨h, hx⟩
set_option maxRecDepth 100000 in
set_option maxHeartbeats 8000000 in
theorem EquivalenceMaps_any (w : World) (p m : Int) (mv : Value) (ml : List Int) (hmv : ISl w mv ml) (pv sv : Value) (pl sl : List Int) (fr : Int) (hp : ISl w pv pl) (hs : ISl w sv sl) (xv : Value) (x : List Int) (hx : ISl w xv x) :
    Calls Tryz.prog 3 #[.agg #[.int .i64 p, .int .i64 m, mv], .agg #[pv, sv, .int .i64 fr], xv] w fun r w' => r = .returned (.bool true) ∧ Ex w w' := by
  obtain ⟨a0, a1, a2, ea⟩ := boxF_facts w p m mv
  obtain ⟨b0, b1, b2, eb⟩ := boxMo_facts (w.alloc (.cells #[.int .i64 p, .int .i64 m, mv] 24)) pv sv fr
  have asz : (w.alloc (.cells #[.int .i64 p, .int .i64 m, mv] 24)).heap.size = w.heap.size + 1 := by simp
  rw [asz] at b0 b1 b2
  replace a0 := eb.cell a0
  replace a1 := eb.cell a1
  replace a2 := eb.cell a2
  have HX := hid_ (ea.trans eb)
  have HM := hid_ hmv
  have HP := hid_ hp
  have HS := hid_ hs
  have HXV := hid_ hx
  obtain ⟨ma, mc, rfl, -, m2, -⟩ := hmv.open
  obtain ⟨pa, pc, rfl, -, q2, -⟩ := hp.open
  obtain ⟨sa, sc, rfl, -, s2, -⟩ := hs.open
  obtain ⟨xa, xc, rfl, -, x2, -⟩ := hx.open
  unfold maxLen at m2 q2 s2 x2
  obtain ⟨B, hB⟩ : ∃ B, w.heap.size = B := ⟨_, rfl⟩
  rw [hB] at a0 a1 a2 b0 b1 b2
  have HAW := hid_ (fun w' => awake_any w')
  have HSH := hid_ (fun (w' : World) (h : Ex w w') => short_any w' pl sl _ _ (hp.ex h) (hs.ex h) fr)
  have HOR := hid_ (fun w' => rOrder_any p m (.slice ma ml.length mc) w')
  have HW1 := hid_ (fun (w' : World) (h : Ex w w') => Word_any w' p m ml _ (hmv.ex h) pl sl _ _ (hp.ex h) (hs.ex h) fr x _ (hx.ex h))
  have HW2 := hid_ (fun (w' : World) (h : Ex w w') => rWord_any w' p m ml _ (hmv.ex h) pl sl _ _ (hp.ex h) (hs.ex h) fr x _ (hx.ex h))
  have HI1 := hid_ (fun (w' : World) (h : Ex w w') => Inverse_any w' p m ml _ (hmv.ex h) pl sl _ _ (hp.ex h) (hs.ex h) fr)
  have HI2 := hid_ (fun (w' : World) (h : Ex w w') => rInverse_any w' p m ml _ (hmv.ex h) pl sl _ _ (hp.ex h) (hs.ex h) fr)
  have HC1 := hid_ (fun (w' : World) (h : Ex w w') (n : Int) => eCheck_any w' p m ml _ (hmv.ex h) n pl sl _ _ (hp.ex h) (hs.ex h) fr)
  have HC2 := hid_ (fun (w' : World) (h : Ex w w') (n : Int) => rMCheck_any w' p m ml _ (hmv.ex h) n pl sl _ _ (hp.ex h) (hs.ex h) fr)
  obtain ⟨E1, hE1⟩ : ∃ e, wrdE p m ml pl sl fr x = e := ⟨_, rfl⟩
  obtain ⟨L1, hL1⟩ : ∃ l, wrdL p m ml pl sl fr x = l := ⟨_, rfl⟩
  obtain ⟨E2, hE2⟩ : ∃ e, monS p m ml pl.length pl sl fr = e := ⟨_, rfl⟩
  obtain ⟨M, hM⟩ : ∃ e, invM p m ml pl sl fr = e := ⟨_, rfl⟩
  obtain ⟨C1, hC1⟩ : ∃ e, monS p m ml x.length pl sl fr = e := ⟨_, rfl⟩
  obtain ⟨C2, hC2⟩ : ∃ e, monS p m ml 65 pl sl fr = e := ⟨_, rfl⟩
  have HCA := hid_ (fun (w' : World) (h : Ex w w') => (HC1.out w' h x.length))
  have HCB := hid_ (fun (w' : World) (h : Ex w w') => (HC2.out w' h x.length))
  have HCC := hid_ (fun (w' : World) (h : Ex w w') => (HC1.out w' h 65))
  have HCD := hid_ (fun (w' : World) (h : Ex w w') => (HC2.out w' h 65))
  rw [hL1, hE1] at HW1 HW2
  rw [hE2, hM] at HI1 HI2
  rw [hC1] at HCA HCB
  rw [hC2] at HCC HCD
  clear hmv hp hs hx ea eb asz hE1 hL1 hE2 hM hC1 hC2 HC1 HC2
  go_enter Tryz.func3, Tryz.ntmps3
  go_upto_region 1 with fail
  try simp only [hB]
  clear hB
  generalize (w.alloc (.cells #[.int .i64 p, .int .i64 m, .slice ma ml.length mc] 24)).alloc (.cells #[.slice pa pl.length pc, .slice sa sl.length sc, .int .i64 fr] 26) = w1 at *
  have HALL := hid_ (fun w' (h : Ex w1 w') => (⟨h.cell a0, h.cell a1, h.cell a2, h.cell b0, h.cell b1, h.cell b2⟩ : _ ∧ _ ∧ _ ∧ _ ∧ _ ∧ _))
  clear a0 a1 a2 b0 b1 b2
  go_wp2_with fail
  refine (HAW.out _).mono ?_
  rintro e w2 ⟨rfl, hx2⟩
  have HX2 := hid_ hx2
  clear hx2
  obtain ⟨a0, a1, a2, b0, b1, b2⟩ := HALL.out w2 HX2.out
  go_wp2_with fail
  refine (HSH.out w2 (HX.out.trans HX2.out)).mono ?_
  rintro e w3 ⟨rfl, hx3⟩
  have HX3 := hid_ (HX2.out.trans hx3)
  clear hx3 a0 a1 a2 b0 b1 b2
  obtain ⟨a0, a1, a2, b0, b1, b2⟩ := HALL.out w3 HX3.out
  obtain ⟨S1, hS1⟩ : ∃ S, shoB pl sl = S := ⟨_, rfl⟩
  rw [hS1]
  clear hS1
  have bad : ∀ w', Ex w1 w' → Calls Tryz.prog 12 #[] w' fun r w'' => r = .returned (.bool true) ∧ Ex w1 w'' := fun w' h => (HAW.out w').mono fun r w'' ⟨h1, h2⟩ => ⟨h1, h.trans h2⟩
  have BAD := hid_ bad
  clear bad
  cases S1 with
  | false =>
    go_wp2_with fail
    refine (BAD.out _ HX3.out).mono ?_
    rintro e w9 ⟨rfl, hx9⟩
    have HX9 := hid_ hx9
    clear hx9
    go_wp2_with fail
    go_ret
    exact ⟨rfl, HX.out.trans HX9.out⟩
  | true =>
    by_cases h1 : 100 < x.length
    · have k1 : decide ((x.length : Int) > 100) = true := by simp; omega
      have k2 : decide (100 < (x.length : Int)) = true := by simp; omega
      have k3 : (100 : Int) < (x.length : Int) := by omega
      clear h1
      go_wp2_with fail
      refine (BAD.out _ HX3.out).mono ?_
      rintro e w9 ⟨rfl, hx9⟩
      have HX9 := hid_ hx9
      clear hx9
      go_wp2_with fail
      go_ret
      exact ⟨rfl, HX.out.trans HX9.out⟩
    · have k2 : decide (100 < (x.length : Int)) = false := by simp; omega
      have k3 : ¬ (100 : Int) < (x.length : Int) := by omega
      clear h1
      go_wp2_with fail
      refine (HOR.out _).mono ?_
      rintro e w4 ⟨rfl, hx4⟩
      have HX4 := hid_ (HX3.out.trans hx4)
      clear hx4 a0 a1 a2 b0 b1 b2
      obtain ⟨Q, hQ⟩ : ∃ Q, ordS p m = Q := ⟨_, rfl⟩
      rw [hQ]
      clear hQ
      by_cases h2 : 64 < Q
      · have k4 : decide (64 < Q) = true := by simpa using h2
        go_wp2_with fail
        refine (BAD.out _ HX4.out).mono ?_
        rintro e w9 ⟨rfl, hx9⟩
        have HX9 := hid_ hx9
        clear hx9
        go_wp2_with fail
        go_ret
        exact ⟨rfl, HX.out.trans HX9.out⟩
      · have k4 : decide (64 < Q) = false := by simpa using h2
        clear h2
        obtain ⟨a0, a1, a2, b0, b1, b2⟩ := HALL.out w4 HX4.out
        go_wp2_with fail
        refine (HW1.out w4 (HX.out.trans HX4.out)).mono ?_
        rintro e w5 ⟨⟨va, rfl, hva⟩, hx5⟩
        have HX5 := hid_ (HX4.out.trans hx5)
        have HVA := hid_ hva
        clear hx5 hva a0 a1 a2 b0 b1 b2
        obtain ⟨a0, a1, a2, b0, b1, b2⟩ := HALL.out w5 HX5.out
        go_wp2_with fail
        refine (HW2.out w5 (HX.out.trans HX5.out)).mono ?_
        rintro e w6 ⟨⟨vb, rfl, hvb⟩, hx6⟩
        have HX6 := hid_ (HX5.out.trans hx6)
        have HVB := hid_ hvb
        have HVA := hid_ (HVA.out.ex hx6)
        clear hx6 hvb a0 a1 a2 b0 b1 b2
        obtain ⟨a0, a1, a2, b0, b1, b2⟩ := HALL.out w6 HX6.out
        go_wp2_with fail
        refine (HI1.out w6 (HX.out.trans HX6.out)).mono ?_
        rintro e w7 ⟨⟨y1, y2, rfl, hy1, hy2⟩, hx7⟩
        obtain ⟨ya, yc, rfl, -⟩ := hy1.open
        obtain ⟨za, zc, rfl, -⟩ := hy2.open
        obtain ⟨c0, c1, c2, ec⟩ := boxMo_facts w7 (.slice ya M.perm.length yc) (.slice za M.scale.length zc) M.frob
        have HX7 := hid_ (HX6.out.trans (hx7.trans ec))
        have HVB := hid_ (HVB.out.ex (hx7.trans ec))
        have HVA := hid_ (HVA.out.ex (hx7.trans ec))
        have HY1 := hid_ (hy1.ex ec)
        have HY2 := hid_ (hy2.ex ec)
        clear hx7 hy1 hy2 a0 a1 a2 b0 b1 b2 ec
        go_upto_region 6 with fail
        obtain ⟨YB, hYB⟩ : ∃ B, w7.heap.size = B := ⟨_, rfl⟩
        rw [hYB] at c0 c1 c2
        try simp only [hYB]
        clear hYB
        generalize w7.alloc (.cells #[.slice ya M.perm.length yc, .slice za M.scale.length zc, .int .i64 M.frob] 26) = w8 at *
        have HC := hid_ (fun w' (h : Ex w8 w') => (⟨h.cell c0, h.cell c1, h.cell c2⟩ : _ ∧ _ ∧ _))
        clear c0 c1 c2
        obtain ⟨a0, a1, a2, b0, b1, b2⟩ := HALL.out w8 HX7.out
        go_wp2_with fail
        refine (HI2.out w8 (HX.out.trans HX7.out)).mono ?_
        rintro e w9 ⟨⟨y3, y4, rfl, hy3, hy4⟩, hx9⟩
        obtain ⟨ua, uc, rfl, -⟩ := hy3.open
        obtain ⟨ta, tc, rfl, -⟩ := hy4.open
        obtain ⟨d0, d1, d2, ed⟩ := boxMo_facts w9 (.slice ua M.perm.length uc) (.slice ta M.scale.length tc) M.frob
        have HX9 := hid_ (HX7.out.trans (hx9.trans ed))
        have HVB := hid_ (HVB.out.ex (hx9.trans ed))
        have HVA := hid_ (HVA.out.ex (hx9.trans ed))
        have HY1 := hid_ (HY1.out.ex (hx9.trans ed))
        have HY2 := hid_ (HY2.out.ex (hx9.trans ed))
        have HY3 := hid_ (hy3.ex ed)
        have HY4 := hid_ (hy4.ex ed)
        obtain ⟨c0, c1, c2⟩ := HC.out _ (hx9.trans ed)
        clear hx9 hy3 hy4 a0 a1 a2 b0 b1 b2 ed
        go_upto_region 7 with fail
        obtain ⟨ZB, hZB⟩ : ∃ B, w9.heap.size = B := ⟨_, rfl⟩
        rw [hZB] at d0 d1 d2
        try simp only [hZB]
        clear hZB HC
        generalize w9.alloc (.cells #[.slice ua M.perm.length uc, .slice ta M.scale.length tc, .int .i64 M.frob] 26) = w10 at *
        have HC := hid_ (fun w' (h : Ex w10 w') => (⟨h.cell c0, h.cell c1, h.cell c2, h.cell d0, h.cell d1, h.cell d2⟩ : _ ∧ _ ∧ _ ∧ _ ∧ _ ∧ _))
        clear c0 c1 c2 d0 d1 d2
        have e1 : (E1 != E1) = false := by simp
        have e2 : (E2 != E2) = false := by simp
        go_wp2_with fail
        refine (k_ints _ _ _ L1 HVA.out HVB.out).mono ?_
        rintro e w11 ⟨rfl, hx11⟩
        obtain ⟨c0, c1, c2, d0, d1, d2⟩ := HC.out w11 hx11
        have HX11 := hid_ (HX9.out.trans hx11)
        have HY1 := hid_ (HY1.out.ex hx11)
        have HY2 := hid_ (HY2.out.ex hx11)
        have HY3 := hid_ (HY3.out.ex hx11)
        have HY4 := hid_ (HY4.out.ex hx11)
        clear hx11
        go_wp2_with fail
        refine (k_map2 _ M _ _ _ _ HY1.out HY2.out HY3.out HY4.out).mono ?_
        rintro e w12 ⟨rfl, hx12⟩
        have HX12 := hid_ (HX11.out.trans hx12)
        clear hx12 c0 c1 c2 d0 d1 d2
        go_upto_region 9 with fail
        have f1 : (C1 == C1) = true := by simp
        have f2 : (C2 == C2) = true := by simp
        have HAL2 := hid_ (fun w' (h : Ex w12 w') => (HALL.out w' (HX12.out.trans h)))
        have HXW := hid_ (HX.out.trans HX12.out)
        have X0 : Ex w12 w12.drew := (Ex.refl w12).drew
        go_region_held3 (fun w' => w'.cell? ⟨B, 0, none⟩ = some (.int .i64 p) ∧ w'.cell? ⟨B, 1, none⟩ = some (.int .i64 m) ∧ w'.cell? ⟨B, 2, none⟩ = some (.slice ma ml.length mc) ∧ w'.cell? ⟨B + 1, 0, none⟩ = some (.slice pa pl.length pc) ∧ w'.cell? ⟨B + 1, 1, none⟩ = some (.slice sa sl.length sc) ∧ w'.cell? ⟨B + 1, 2, none⟩ = some (.int .i64 fr))
          (first | with_reducible exact HAL2.out _ X0 | with_reducible exact HAL2.out _ X1 | with_reducible exact HAL2.out _ X2 | with_reducible exact HAL2.out _ X3 | with_reducible exact HAL2.out _ X4)
          (first | (go_at_call 21; (first | ((with_reducible refine (HCC.out _ (HXW.out.trans X2)).mono ?_); rintro e w15 ⟨rfl, h15⟩; have X3 := X2.trans h15; clear h15) | ((with_reducible refine (HCA.out _ (HXW.out.trans X0)).mono ?_); rintro e w13 ⟨rfl, h13⟩; have X1 := X0.trans h13; clear h13))) | (go_at_call 22; (first | ((with_reducible refine (HCD.out _ (HXW.out.trans X3)).mono ?_); rintro e w16 ⟨rfl, h16⟩; have X4 := X3.trans h16; clear h16) | ((with_reducible refine (HCB.out _ (HXW.out.trans X1)).mono ?_); rintro e w14 ⟨rfl, h14⟩; have X2 := X1.trans h14; clear h14))))
        go_wp2_with fail
        go_ret
        exact ⟨rfl, HXW.out.trans X4⟩
set_option maxRecDepth 100000 in
set_option maxHeartbeats 8000000 in
theorem EquivalenceComposes_any (w : World) (p m : Int) (mv : Value) (ml : List Int) (hmv : ISl w mv ml) (pv sv : Value) (pl sl : List Int) (fr : Int) (hp : ISl w pv pl) (hs : ISl w sv sl) (qv tv : Value) (ql tl : List Int) (fs : Int) (hq : ISl w qv ql) (ht : ISl w tv tl) :
    Calls Tryz.prog 4 #[.agg #[.int .i64 p, .int .i64 m, mv], .agg #[pv, sv, .int .i64 fr], .agg #[qv, tv, .int .i64 fs]] w fun r w' => r = .returned (.bool true) ∧ Ex w w' := by
  obtain ⟨a0, a1, a2, ea⟩ := boxF_facts w p m mv
  obtain ⟨b0, b1, b2, eb⟩ := boxMo_facts (w.alloc (.cells #[.int .i64 p, .int .i64 m, mv] 24)) pv sv fr
  obtain ⟨c0, c1, c2, ec⟩ := boxMo_facts ((w.alloc (.cells #[.int .i64 p, .int .i64 m, mv] 24)).alloc (.cells #[pv, sv, .int .i64 fr] 26)) qv tv fs
  have asz : (w.alloc (.cells #[.int .i64 p, .int .i64 m, mv] 24)).heap.size = w.heap.size + 1 := by simp
  have bsz : ((w.alloc (.cells #[.int .i64 p, .int .i64 m, mv] 24)).alloc (.cells #[pv, sv, .int .i64 fr] 26)).heap.size = w.heap.size + 1 + 1 := by simp
  rw [asz] at b0 b1 b2
  rw [bsz] at c0 c1 c2
  replace a0 := (eb.trans ec).cell a0
  replace a1 := (eb.trans ec).cell a1
  replace a2 := (eb.trans ec).cell a2
  replace b0 := ec.cell b0
  replace b1 := ec.cell b1
  replace b2 := ec.cell b2
  have HX := hid_ (ea.trans (eb.trans ec))
  obtain ⟨ma, mc, rfl, -, m2, -⟩ := hmv.open
  obtain ⟨pa, pc, rfl, -, q2, -⟩ := hp.open
  obtain ⟨sa, sc, rfl, -, s2, -⟩ := hs.open
  obtain ⟨qa, qc, rfl, -, x2, -⟩ := hq.open
  obtain ⟨ta, tc, rfl, -, y2, -⟩ := ht.open
  unfold maxLen at m2 q2 s2 x2 y2
  obtain ⟨B, hB⟩ : ∃ B, w.heap.size = B := ⟨_, rfl⟩
  rw [hB] at a0 a1 a2 b0 b1 b2 c0 c1 c2
  have HAW := hid_ (fun w' => awake_any w')
  have HSH := hid_ (fun (w' : World) (h : Ex w w') => short_any w' pl sl _ _ (hp.ex h) (hs.ex h) fr)
  have HSK := hid_ (fun (w' : World) (h : Ex w w') => short_any w' ql tl _ _ (hq.ex h) (ht.ex h) fs)
  have HOR := hid_ (fun w' => rOrder_any p m (.slice ma ml.length mc) w')
  have HI1 := hid_ (fun (w' : World) (h : Ex w w') => Compose_any w' p m ml _ (hmv.ex h) pl sl _ _ (hp.ex h) (hs.ex h) fr ql tl _ _ (hq.ex h) (ht.ex h) fs)
  have HI2 := hid_ (fun (w' : World) (h : Ex w w') => rCompose_any w' p m ml _ (hmv.ex h) pl sl _ _ (hp.ex h) (hs.ex h) fr ql tl _ _ (hq.ex h) (ht.ex h) fs)
  obtain ⟨E2, hE2⟩ : ∃ e, cmpE p m ml pl sl fr ql tl fs = e := ⟨_, rfl⟩
  obtain ⟨M, hM⟩ : ∃ e, cmpM p m ml pl sl fr ql tl fs = e := ⟨_, rfl⟩
  obtain ⟨S1, hS1⟩ : ∃ S, shoB pl sl = S := ⟨_, rfl⟩
  obtain ⟨S2, hS2⟩ : ∃ S, shoB ql tl = S := ⟨_, rfl⟩
  obtain ⟨Q, hQ⟩ : ∃ Q, ordS p m = Q := ⟨_, rfl⟩
  rw [hE2, hM] at HI1 HI2
  rw [hS1] at HSH
  rw [hS2] at HSK
  rw [hQ] at HOR
  clear hmv hp hs hq ht ea eb ec asz bsz hE2 hM hS1 hS2 hQ
  go_enter Tryz.func4, Tryz.ntmps4
  go_upto_region 1 with fail
  try simp only [hB]
  clear hB
  generalize ((w.alloc (.cells #[.int .i64 p, .int .i64 m, .slice ma ml.length mc] 24)).alloc (.cells #[.slice pa pl.length pc, .slice sa sl.length sc, .int .i64 fr] 26)).alloc (.cells #[.slice qa ql.length qc, .slice ta tl.length tc, .int .i64 fs] 26) = w1 at *
  have HALL := hid_ (fun w' (h : Ex w1 w') => (⟨h.cell a0, h.cell a1, h.cell a2, h.cell b0, h.cell b1, h.cell b2, h.cell c0, h.cell c1, h.cell c2⟩ : _ ∧ _ ∧ _ ∧ _ ∧ _ ∧ _ ∧ _ ∧ _ ∧ _))
  have bad : ∀ w', Ex w1 w' → Calls Tryz.prog 12 #[] w' fun r w'' => r = .returned (.bool true) ∧ Ex w1 w'' := fun w' h => (HAW.out w').mono fun r w'' ⟨h1, h2⟩ => ⟨h1, h.trans h2⟩
  have BAD := hid_ bad
  clear a0 a1 a2 b0 b1 b2 c0 c1 c2 bad
  go_wp2_with fail
  refine (HAW.out _).mono ?_
  rintro e w2 ⟨rfl, hx2⟩
  have HX2 := hid_ hx2
  clear hx2
  obtain ⟨a0, a1, a2, b0, b1, b2, c0, c1, c2⟩ := HALL.out w2 HX2.out
  go_wp2_with fail
  refine (HSH.out w2 (HX.out.trans HX2.out)).mono ?_
  rintro e w3 ⟨rfl, hx3⟩
  have HX3 := hid_ (HX2.out.trans hx3)
  clear hx3 a0 a1 a2 b0 b1 b2 c0 c1 c2
  obtain ⟨a0, a1, a2, b0, b1, b2, c0, c1, c2⟩ := HALL.out w3 HX3.out
  cases S1 with
  | false =>
    go_wp2_with fail
    refine (BAD.out _ HX3.out).mono ?_
    rintro e w9 ⟨rfl, hx9⟩
    have HX9 := hid_ hx9
    clear hx9
    go_wp2_with fail
    go_ret
    exact ⟨rfl, HX.out.trans HX9.out⟩
  | true =>
    go_wp2_with fail
    refine (HSK.out w3 (HX.out.trans HX3.out)).mono ?_
    rintro e w4 ⟨rfl, hx4⟩
    have HX4 := hid_ (HX3.out.trans hx4)
    clear hx4 a0 a1 a2 b0 b1 b2 c0 c1 c2
    obtain ⟨a0, a1, a2, b0, b1, b2, c0, c1, c2⟩ := HALL.out w4 HX4.out
    cases S2 with
    | false =>
      go_wp2_with fail
      refine (BAD.out _ HX4.out).mono ?_
      rintro e w9 ⟨rfl, hx9⟩
      have HX9 := hid_ hx9
      clear hx9
      go_wp2_with fail
      go_ret
      exact ⟨rfl, HX.out.trans HX9.out⟩
    | true =>
      go_wp2_with fail
      refine (HOR.out _).mono ?_
      rintro e w5 ⟨rfl, hx5⟩
      have HX5 := hid_ (HX4.out.trans hx5)
      clear hx5 a0 a1 a2 b0 b1 b2 c0 c1 c2
      by_cases h2 : 64 < Q
      · have k4 : decide (64 < Q) = true := by simpa using h2
        go_wp2_with fail
        refine (BAD.out _ HX5.out).mono ?_
        rintro e w9 ⟨rfl, hx9⟩
        have HX9 := hid_ hx9
        clear hx9
        go_wp2_with fail
        go_ret
        exact ⟨rfl, HX.out.trans HX9.out⟩
      · have k4 : decide (64 < Q) = false := by simpa using h2
        clear h2
        obtain ⟨a0, a1, a2, b0, b1, b2, c0, c1, c2⟩ := HALL.out w5 HX5.out
        go_wp2_with fail
        refine (HI1.out w5 (HX.out.trans HX5.out)).mono ?_
        rintro e w7 ⟨⟨y1, y2, rfl, hy1, hy2⟩, hx7⟩
        obtain ⟨ya, yc, rfl, -⟩ := hy1.open
        obtain ⟨za, zc, rfl, -⟩ := hy2.open
        obtain ⟨g0, g1, g2, ec⟩ := boxMo_facts w7 (.slice ya M.perm.length yc) (.slice za M.scale.length zc) M.frob
        have HX7 := hid_ (HX5.out.trans (hx7.trans ec))
        have HY1 := hid_ (hy1.ex ec)
        have HY2 := hid_ (hy2.ex ec)
        clear hx7 hy1 hy2 a0 a1 a2 b0 b1 b2 c0 c1 c2 ec
        go_upto_region 4 with fail
        obtain ⟨YB, hYB⟩ : ∃ B, w7.heap.size = B := ⟨_, rfl⟩
        rw [hYB] at g0 g1 g2
        try simp only [hYB]
        clear hYB
        generalize w7.alloc (.cells #[.slice ya M.perm.length yc, .slice za M.scale.length zc, .int .i64 M.frob] 26) = w8 at *
        have HC := hid_ (fun w' (h : Ex w8 w') => (⟨h.cell g0, h.cell g1, h.cell g2⟩ : _ ∧ _ ∧ _))
        clear g0 g1 g2
        obtain ⟨a0, a1, a2, b0, b1, b2, c0, c1, c2⟩ := HALL.out w8 HX7.out
        go_wp2_with fail
        refine (HI2.out w8 (HX.out.trans HX7.out)).mono ?_
        rintro e w9 ⟨⟨y3, y4, rfl, hy3, hy4⟩, hx9⟩
        obtain ⟨ua, uc, rfl, -⟩ := hy3.open
        obtain ⟨va, vc, rfl, -⟩ := hy4.open
        obtain ⟨d0, d1, d2, ed⟩ := boxMo_facts w9 (.slice ua M.perm.length uc) (.slice va M.scale.length vc) M.frob
        have HX9 := hid_ (HX7.out.trans (hx9.trans ed))
        have HY1 := hid_ (HY1.out.ex (hx9.trans ed))
        have HY2 := hid_ (HY2.out.ex (hx9.trans ed))
        have HY3 := hid_ (hy3.ex ed)
        have HY4 := hid_ (hy4.ex ed)
        obtain ⟨g0, g1, g2⟩ := HC.out _ (hx9.trans ed)
        clear hx9 hy3 hy4 a0 a1 a2 b0 b1 b2 c0 c1 c2 ed
        go_upto_region 5 with fail
        obtain ⟨ZB, hZB⟩ : ∃ B, w9.heap.size = B := ⟨_, rfl⟩
        rw [hZB] at d0 d1 d2
        try simp only [hZB]
        clear hZB HC
        generalize w9.alloc (.cells #[.slice ua M.perm.length uc, .slice va M.scale.length vc, .int .i64 M.frob] 26) = w10 at *
        have e2 : (E2 == E2) = true := by simp
        go_wp2_with fail
        refine (k_map2 _ M _ _ _ _ HY1.out HY2.out HY3.out HY4.out).mono ?_
        rintro e w12 ⟨rfl, hx12⟩
        have HX12 := hid_ (HX9.out.trans hx12)
        clear hx12 g0 g1 g2 d0 d1 d2
        go_wp2_with fail
        go_ret
        exact ⟨rfl, HX.out.trans HX12.out⟩
end Go.Proofs.YtgdmlmhpineibaaGreat
