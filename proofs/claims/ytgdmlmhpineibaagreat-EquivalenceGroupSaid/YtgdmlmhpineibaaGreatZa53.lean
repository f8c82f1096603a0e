/- Walk of EquivalenceGroup (printed by gen_grp.py). -/
import Derived.Test.YtgdmlmhpineibaaGreatZa47
import Derived.Test.YtgdmlmhpineibaaGreatZa52
namespace Go.Proofs.YtgdmlmhpineibaaGreat
set_option linter.unusedVariables false
set_option linter.unusedSimpArgs false
open Go.RowKit

theorem lisG_ok {p m : Nat} {ml : List Int} (hf : FSh p m ml) {x : List Int} {n : Int} (h : lisG p m x n = 0) : (x.length : Int) = n ∧ ∀ i, i < x.length → ∃ z : Nat, x.getD i 0 = z ∧ z < p ^ m := by
  unfold lisG at h
  split at h
  · cases h
  · rename_i h1
    refine ⟨by simpa using h1, ?_⟩
    rw [entG_entS hf, ent_any] at h
    split at h
    · cases h
    · rename_i h2
      intro i hi
      exact ent_at (by simpa using h2) hi
/-- What the calls of the law hand back, behind its conditions. -/
structure GrpE (p m : Int) (ml pl sl : List Int) (fr : Int) (ql tl : List Int) (fs : Int) (x Y Z : List Int) (M V : MapV) : Prop where
  w1 : wrdE p m ml pl sl fr x = 0 ∧ wrdL p m ml pl sl fr x = Y
  w2 : wrdE p m ml ql tl fs Y = 0 ∧ wrdL p m ml ql tl fs Y = Z
  c : cmpE p m ml pl sl fr ql tl fs = 0 ∧ cmpM p m ml pl sl fr ql tl fs = M
  v : monS p m ml pl.length pl sl fr = 0 ∧ invM p m ml pl sl fr = V
  w3 : wrdE p m ml M.perm M.scale M.frob x = 0 ∧ wrdL p m ml M.perm M.scale M.frob x = Z
  w4 : wrdE p m ml V.perm V.scale V.frob Y = 0 ∧ wrdL p m ml V.perm V.scale V.frob Y = x
  wg : wgtK Y Y.length = wgtK x x.length
theorem grpE {p m : Int} {ml pl sl : List Int} {fr : Int} {ql tl : List Int} {fs : Int} {x : List Int} (h1 : lisG p m x pl.length = 0) (h2 : monS p m ml x.length pl sl fr = 0) (h3 : monS p m ml x.length ql tl fs = 0) :
    ∃ Y Z M V, GrpE p m ml pl sl fr ql tl fs x Y Z M V := by
  obtain ⟨pn, mn, N, fn, rfl, rfl, hN, rfl, hf, hc, h⟩ := monOK_of h2
  obtain ⟨pn', mn', N', gn, e1, e2, hN', rfl, _, _, k⟩ := monOK_of h3
  obtain rfl : pn = pn' := by omega
  obtain rfl : mn = mn' := by omega
  obtain rfl : N = N' := by omega
  obtain ⟨hl, hx⟩ := lisG_ok hf h1
  have hxl : x.length = N := by omega
  have hx : ∀ i, i < N → ∃ z : Nat, x.getD i 0 = z ∧ z < pn ^ mn := fun i hi => hx i (by omega)
  have p0 : ∀ i, i < N → 0 ≤ pl.getD i 0 := fun i hi => by
    obtain ⟨_, _, _, q3, _, q5, _⟩ := mon_ok h2
    exact (rngB_at q5 (i := i) (by omega)).1
  have q0 : ∀ i, i < N → 0 ≤ ql.getD i 0 := fun i hi => by
    obtain ⟨_, _, _, q3, _, q5, _⟩ := mon_ok h3
    exact (rngB_at q5 (i := i) (by omega)).1
  have hc' := cmp_ok h k
  have hv' := inv_ok h (bckN mn fn) (Nat.mod_lt _ (by have := h.hm; omega))
  have hcp : ∀ i, i < N → 0 ≤ (il N (cP pl ql)).getD i 0 := fun i hi => by
    rw [eil_getD' hi]; exact q0 _ (h.inj.lt i hi)
  have hvp : ∀ i, i < N → 0 ≤ (il N (plc (piF pl) (fun i => (i : Int)) N)).getD i 0 := fun j hj => by
    obtain ⟨i, hi, rfl⟩ := h.inj.surj hj
    rw [inv_at h _ hi]; omega
  have m1 : monS pn mn ml pl.length pl sl fn = 0 := by rw [h.pll]; exact mon_mk hc h p0
  have m2 : monS pn mn ml ql.length ql tl gn = 0 := by rw [k.pll]; exact mon_mk hc k q0
  have hcm : cmpE pn mn ml pl sl fn ql tl gn = 0 := by
    unfold cmpE
    rw [m1, m2, if_neg (by simp), if_neg (by simp), if_neg (by rw [h.pll, k.pll]; simp)]
  refine ⟨_, _, ⟨il N (cP pl ql), il N (cS pn mn ml pl sl tl gn), ((fn + gn) % mn : Nat)⟩, ⟨il N (plc (piF pl) (fun i => (i : Int)) N), il N (plc (piF pl) (ivS pn mn ml sl (bckN mn fn)) N), (bckN mn fn : Nat)⟩, wrd_ok hc h p0 hxl hx, wrd_ok hc k q0 (il_length _ _) (img_ent h), ⟨hcm, ?_⟩, ⟨m1, ?_⟩, ?_, ?_, img_wgt h hxl hx⟩
  · unfold cmpM
    rw [hcm, if_neg (by simp), h.pll]
    simp
  · unfold invM
    rw [m1, if_neg (by simp), h.pll]
    simp
  · obtain ⟨a, b⟩ := wrd_ok hc hc' hcp hxl hx
    exact ⟨a, b.trans (cmp_img h k hx)⟩
  · obtain ⟨a, b⟩ := wrd_ok hc hv' hvp (il_length _ _) (img_ent h (x := x))
    exact ⟨a, b.trans (inv_img h hxl hx)⟩
set_option maxRecDepth 100000 in
set_option maxHeartbeats 8000000 in
theorem EquivalenceGroup_any (w : World) (p m : Int) (mv : Value) (ml : List Int) (hmv : ISl w mv ml) (pv sv : Value) (pl sl : List Int) (fr : Int) (hp : ISl w pv pl) (hs : ISl w sv sl) (qv tv : Value) (ql tl : List Int) (fs : Int) (hq : ISl w qv ql) (ht : ISl w tv tl) (xv : Value) (x : List Int) (hx : ISl w xv x) :
    Calls Tryz.prog 5 #[.agg #[.int .i64 p, .int .i64 m, mv], .agg #[pv, sv, .int .i64 fr, qv, tv, .int .i64 fs], xv] w fun r w' => r = .returned (.bool true) ∧ Ex w w' := by
  obtain ⟨a0, a1, a2, ea⟩ := boxF_facts w p m mv
  have hbx := boxAt_new (w.alloc (.cells #[.int .i64 p, .int .i64 m, mv] 24)) [pv, sv, .int .i64 fr, qv, tv, .int .i64 fs] _ 41 rfl
  have eb := e_al (w.alloc (.cells #[.int .i64 p, .int .i64 m, mv] 24)) (.cells #[pv, sv, .int .i64 fr, qv, tv, .int .i64 fs] 41)
  have asz : (w.alloc (.cells #[.int .i64 p, .int .i64 m, mv] 24)).heap.size = w.heap.size + 1 := by simp
  rw [asz] at hbx
  have b0 := hbx 0 _ rfl
  have b1 := hbx 1 _ rfl
  have b2 := hbx 2 _ rfl
  have c0 := hbx 3 _ rfl
  have c1 := hbx 4 _ rfl
  have c2 := hbx 5 _ rfl
  replace a0 := eb.cell a0
  replace a1 := eb.cell a1
  replace a2 := eb.cell a2
  have HX := hid_ (ea.trans eb)
  have HMV := hid_ hmv
  have HXV := hid_ hx
  obtain ⟨ma, mc, rfl, -, m2, -⟩ := hmv.open
  obtain ⟨pa, pc, rfl, -, q2, -⟩ := hp.open
  obtain ⟨sa, sc, rfl, -, s2, -⟩ := hs.open
  obtain ⟨qa, qc, rfl, -, x2, -⟩ := hq.open
  obtain ⟨ta, tc, rfl, -, y2, -⟩ := ht.open
  obtain ⟨xa, xc, rfl, -, z2, -⟩ := hx.open
  unfold maxLen at m2 q2 s2 x2 y2 z2
  obtain ⟨B, hB⟩ : ∃ B, w.heap.size = B := ⟨_, rfl⟩
  rw [hB] at a0 a1 a2 b0 b1 b2 c0 c1 c2
  have HAW := hid_ (fun w' => awake_any w')
  have HSH := hid_ (fun (w' : World) (h : Ex w w') => short_any w' pl sl _ _ (hp.ex h) (hs.ex h) fr)
  have HSK := hid_ (fun (w' : World) (h : Ex w w') => short_any w' ql tl _ _ (hq.ex h) (ht.ex h) fs)
  have HOR := hid_ (fun w' => rOrder_any p m (.slice ma ml.length mc) w')
  have HLI := hid_ (fun (w' : World) (h : Ex w w') => rListG_any (p := p) (m := m) (mv := .slice ma ml.length mc) w' x _ (hx.ex h) pl.length)
  have HC1 := hid_ (fun (w' : World) (h : Ex w w') => rMCheck_any w' p m ml _ (hmv.ex h) x.length pl sl _ _ (hp.ex h) (hs.ex h) fr)
  have HC2 := hid_ (fun (w' : World) (h : Ex w w') => rMCheck_any w' p m ml _ (hmv.ex h) x.length ql tl _ _ (hq.ex h) (ht.ex h) fs)
  have HGE := hid_ (fun h1 h2 h3 => grpE (p := p) (m := m) (ml := ml) (pl := pl) (sl := sl) (fr := fr) (ql := ql) (tl := tl) (fs := fs) (x := x) h1 h2 h3)
  have HW1 := hid_ (fun (w' : World) (h : Ex w w') => Word_any w' p m ml _ (hmv.ex h) pl sl _ _ (hp.ex h) (hs.ex h) fr x _ (hx.ex h))
  have HW2 := hid_ (fun (w' : World) (h : Ex w w') (Y : List Int) (yv : Value) (hy : ISl w' yv Y) => Word_any w' p m ml _ (hmv.ex h) ql tl _ _ (hq.ex h) (ht.ex h) fs Y _ hy)
  have HI1 := hid_ (fun (w' : World) (h : Ex w w') => Compose_any w' p m ml _ (hmv.ex h) pl sl _ _ (hp.ex h) (hs.ex h) fr ql tl _ _ (hq.ex h) (ht.ex h) fs)
  have HI2 := hid_ (fun (w' : World) (h : Ex w w') => Inverse_any w' p m ml _ (hmv.ex h) pl sl _ _ (hp.ex h) (hs.ex h) fr)
  obtain ⟨S1, hS1⟩ : ∃ S, shoB pl sl = S := ⟨_, rfl⟩
  obtain ⟨S2, hS2⟩ : ∃ S, shoB ql tl = S := ⟨_, rfl⟩
  obtain ⟨Q, hQ⟩ : ∃ Q, ordS p m = Q := ⟨_, rfl⟩
  obtain ⟨E1, hE1⟩ : ∃ Q, lisG p m x pl.length = Q := ⟨_, rfl⟩
  obtain ⟨E2, hE2⟩ : ∃ Q, monS p m ml x.length pl sl fr = Q := ⟨_, rfl⟩
  obtain ⟨E3, hE3⟩ : ∃ Q, monS p m ml x.length ql tl fs = Q := ⟨_, rfl⟩
  rw [hS1] at HSH
  rw [hS2] at HSK
  rw [hQ] at HOR
  rw [hE1] at HLI HGE
  rw [hE2] at HC1 HGE
  rw [hE3] at HC2 HGE
  clear hmv hp hs hq ht hx ea eb asz hbx hS1 hS2 hQ hE1 hE2 hE3
  go_enter Tryz.func5, Tryz.ntmps5
  go_upto_region 1 with fail
  try simp only [hB]
  clear hB
  generalize (w.alloc (.cells #[.int .i64 p, .int .i64 m, .slice ma ml.length mc] 24)).alloc (.cells #[.slice pa pl.length pc, .slice sa sl.length sc, .int .i64 fr, .slice qa ql.length qc, .slice ta tl.length tc, .int .i64 fs] 41) = w1 at *
  have HALL := hid_ (fun w' (h : Ex w1 w') => (⟨h.cell a0, h.cell a1, h.cell a2, h.cell b0, h.cell b1, h.cell b2, h.cell c0, h.cell c1, h.cell c2⟩ : _ ∧ _ ∧ _ ∧ _ ∧ _ ∧ _ ∧ _ ∧ _ ∧ _))
  have bad : ∀ w', Ex w1 w' → Calls Tryz.prog 12 #[] w' fun r w'' => r = .returned (.bool true) ∧ Ex w1 w'' := fun w' h => (HAW.out w').mono fun r w'' ⟨h1, h2⟩ => ⟨h1, h.trans h2⟩
  have BAD := hid_ bad
  clear a0 a1 a2 b0 b1 b2 c0 c1 c2 bad
  go_wp2_with fail
  refine (HAW.out _).mono ?_
  rintro e w2 ⟨rfl, hx2⟩
  have HX2 := hid_ (hx2)
  clear hx2
  obtain ⟨a0, a1, a2, b0, b1, b2, c0, c1, c2⟩ := HALL.out w2 HX2.out
  go_wp2_with fail
  refine (HSH.out w2 (HX.out.trans HX2.out)).mono ?_
  rintro e w3 ⟨rfl, hx3⟩
  have HX3 := hid_ (HX2.out.trans hx3)
  clear hx3 a0 a1 a2 b0 b1 b2 c0 c1 c2
  obtain ⟨a0, a1, a2, b0, b1, b2, c0, c1, c2⟩ := HALL.out w3 HX3.out
  cases S1 with
  | false =>
    go_wp2_with fail
    refine (BAD.out _ HX3.out).mono ?_
    rintro e w9 ⟨rfl, hx9⟩
    have HX9 := hid_ hx9
    clear hx9
    go_wp2_with fail
    go_ret
    exact ⟨rfl, HX.out.trans HX9.out⟩
  | true =>
    go_wp2_with fail
    refine (HSK.out w3 (HX.out.trans HX3.out)).mono ?_
    rintro e w4 ⟨rfl, hx4⟩
    have HX4 := hid_ (HX3.out.trans hx4)
    clear hx4 a0 a1 a2 b0 b1 b2 c0 c1 c2
    obtain ⟨a0, a1, a2, b0, b1, b2, c0, c1, c2⟩ := HALL.out w4 HX4.out
    cases S2 with
    | false =>
      go_wp2_with fail
      refine (BAD.out _ HX4.out).mono ?_
      rintro e w9 ⟨rfl, hx9⟩
      have HX9 := hid_ hx9
      clear hx9
      go_wp2_with fail
      go_ret
      exact ⟨rfl, HX.out.trans HX9.out⟩
    | true =>
      go_wp2_with fail
      refine (HOR.out _).mono ?_
      rintro e w5 ⟨rfl, hx5⟩
      have HX5 := hid_ (HX4.out.trans hx5)
      clear hx5 a0 a1 a2 b0 b1 b2 c0 c1 c2
      obtain ⟨a0, a1, a2, b0, b1, b2, c0, c1, c2⟩ := HALL.out w5 HX5.out
      by_cases h2 : 64 < Q
      · have k4 : decide (64 < Q) = true := by simpa using h2
        go_wp2_with fail
        refine (BAD.out _ HX5.out).mono ?_
        rintro e w9 ⟨rfl, hx9⟩
        have HX9 := hid_ hx9
        clear hx9
        go_wp2_with fail
        go_ret
        exact ⟨rfl, HX.out.trans HX9.out⟩
      · have k4 : decide (64 < Q) = false := by simpa using h2
        clear h2
        go_wp2_with fail
        refine (HLI.out w5 (HX.out.trans HX5.out)).mono ?_
        rintro e w6 ⟨rfl, hx6⟩
        have HX6 := hid_ (HX5.out.trans hx6)
        clear hx6 a0 a1 a2 b0 b1 b2 c0 c1 c2
        obtain ⟨a0, a1, a2, b0, b1, b2, c0, c1, c2⟩ := HALL.out w6 HX6.out
        by_cases z1 : E1 = 0
        rotate_left
        · have y1 : (E1 != 0) = true := by simpa using z1
          clear z1
          go_wp2_with fail
          refine (BAD.out _ HX6.out).mono ?_
          rintro e w9 ⟨rfl, hx9⟩
          have HX9 := hid_ hx9
          clear hx9
          go_wp2_with fail
          go_ret
          exact ⟨rfl, HX.out.trans HX9.out⟩
        · subst z1
          go_wp2_with fail
          refine (HC1.out w6 (HX.out.trans HX6.out)).mono ?_
          rintro e w7 ⟨rfl, hx7⟩
          have HX7 := hid_ (HX6.out.trans hx7)
          clear hx7 a0 a1 a2 b0 b1 b2 c0 c1 c2
          obtain ⟨a0, a1, a2, b0, b1, b2, c0, c1, c2⟩ := HALL.out w7 HX7.out
          by_cases z1 : E2 = 0
          rotate_left
          · have y1 : (E2 != 0) = true := by simpa using z1
            clear z1
            go_wp2_with fail
            refine (BAD.out _ HX7.out).mono ?_
            rintro e w9 ⟨rfl, hx9⟩
            have HX9 := hid_ hx9
            clear hx9
            go_wp2_with fail
            go_ret
            exact ⟨rfl, HX.out.trans HX9.out⟩
          · subst z1
            go_wp2_with fail
            refine (HC2.out w7 (HX.out.trans HX7.out)).mono ?_
            rintro e w8 ⟨rfl, hx8⟩
            have HX8 := hid_ (HX7.out.trans hx8)
            clear hx8 a0 a1 a2 b0 b1 b2 c0 c1 c2
            obtain ⟨a0, a1, a2, b0, b1, b2, c0, c1, c2⟩ := HALL.out w8 HX8.out
            by_cases z1 : E3 = 0
            rotate_left
            · have y1 : (E3 != 0) = true := by simpa using z1
              clear z1
              go_wp2_with fail
              refine (BAD.out _ HX8.out).mono ?_
              rintro e w9 ⟨rfl, hx9⟩
              have HX9 := hid_ hx9
              clear hx9
              go_wp2_with fail
              go_ret
              exact ⟨rfl, HX.out.trans HX9.out⟩
            · subst z1
              obtain ⟨Y, Z, M, V, hG⟩ := HGE.out (by simp) (by simp) (by simp)
              rw [hG.w1.1, hG.w1.2] at HW1
              rw [hG.c.1, hG.c.2] at HI1
              rw [hG.v.1, hG.v.2] at HI2
              have HW3 := hid_ (fun (w' : World) (h : Ex w w') (yv : Value) (hy : ISl w' yv Y) => by
                have := HW2.out w' h Y yv hy
                rw [hG.w2.1, hG.w2.2] at this
                exact this)
              have HW4 := hid_ (fun (w' : World) (h : Ex w w') (u1 u2 : Value) (h1 : ISl w' u1 M.perm) (h2 : ISl w' u2 M.scale) => by
                have := Word_any w' p m ml _ (HMV.out.ex h) M.perm M.scale u1 u2 h1 h2 M.frob x _ (HXV.out.ex h)
                rw [hG.w3.1, hG.w3.2] at this
                exact this)
              have HW5 := hid_ (fun (w' : World) (h : Ex w w') (u1 u2 yv : Value) (h1 : ISl w' u1 V.perm) (h2 : ISl w' u2 V.scale) (hy : ISl w' yv Y) => by
                have := Word_any w' p m ml _ (HMV.out.ex h) V.perm V.scale u1 u2 h1 h2 V.frob Y yv hy
                rw [hG.w4.1, hG.w4.2] at this
                exact this)
              have HWG := hid_ hG.wg
              clear hG HGE HW2
              go_wp2_with fail
              refine (HW1.out w8 (HX.out.trans HX8.out)).mono ?_
              rintro e w9 ⟨⟨yv, rfl, hy⟩, hx9⟩
              obtain ⟨ya, yc, rfl, -⟩ := hy.open
              have HX9 := hid_ (HX8.out.trans hx9)
              have HY := hid_ hy
              clear hx9 hy a0 a1 a2 b0 b1 b2 c0 c1 c2
              obtain ⟨a0, a1, a2, b0, b1, b2, c0, c1, c2⟩ := HALL.out w9 HX9.out
              go_wp2_with fail
              refine (HW3.out w9 (HX.out.trans HX9.out) _ HY.out).mono ?_
              rintro e w10 ⟨⟨zv, rfl, hz⟩, hx10⟩
              obtain ⟨za, zc, rfl, -⟩ := hz.open
              have HX10 := hid_ (HX9.out.trans hx10)
              have HY := hid_ (HY.out.ex hx10)
              have HZ := hid_ hz
              clear hx10 hz a0 a1 a2 b0 b1 b2 c0 c1 c2
              obtain ⟨a0, a1, a2, b0, b1, b2, c0, c1, c2⟩ := HALL.out w10 HX10.out
              go_wp2_with fail
              refine (HI1.out w10 (HX.out.trans HX10.out)).mono ?_
              rintro e w11 ⟨⟨u1, u2, rfl, hu1, hu2⟩, hx11⟩
              obtain ⟨ua, uc, rfl, -⟩ := hu1.open
              obtain ⟨va, vc, rfl, -⟩ := hu2.open
              obtain ⟨g0, g1, g2, ec⟩ := boxMo_facts w11 (.slice ua M.perm.length uc) (.slice va M.scale.length vc) M.frob
              have HX11 := hid_ (HX10.out.trans (hx11.trans ec))
              have HY := hid_ (HY.out.ex (hx11.trans ec))
              have HZ := hid_ (HZ.out.ex (hx11.trans ec))
              have HU1 := hid_ (hu1.ex ec)
              have HU2 := hid_ (hu2.ex ec)
              clear hx11 hu1 hu2 ec a0 a1 a2 b0 b1 b2 c0 c1 c2
              go_upto_region 6 with fail
              obtain ⟨MB, hMB⟩ : ∃ B, w11.heap.size = B := ⟨_, rfl⟩
              rw [hMB] at g0 g1 g2
              try simp only [hMB]
              clear hMB
              generalize w11.alloc (.cells #[.slice ua M.perm.length uc, .slice va M.scale.length vc, .int .i64 M.frob] 26) = w12 at *
              have HC := hid_ (fun w' (h : Ex w12 w') => (⟨h.cell g0, h.cell g1, h.cell g2⟩ : _ ∧ _ ∧ _))
              clear g0 g1 g2
              obtain ⟨a0, a1, a2, b0, b1, b2, c0, c1, c2⟩ := HALL.out w12 HX11.out
              go_wp2_with fail
              refine (HI2.out w12 (HX.out.trans HX11.out)).mono ?_
              rintro e w13 ⟨⟨u3, u4, rfl, hu3, hu4⟩, hx13⟩
              obtain ⟨na, nc, rfl, -⟩ := hu3.open
              obtain ⟨oa, oc, rfl, -⟩ := hu4.open
              obtain ⟨d0, d1, d2, ed⟩ := boxMo_facts w13 (.slice na V.perm.length nc) (.slice oa V.scale.length oc) V.frob
              have HX13 := hid_ (HX11.out.trans (hx13.trans ed))
              have HY := hid_ (HY.out.ex (hx13.trans ed))
              have HZ := hid_ (HZ.out.ex (hx13.trans ed))
              have HU1 := hid_ (HU1.out.ex (hx13.trans ed))
              have HU2 := hid_ (HU2.out.ex (hx13.trans ed))
              have HU3 := hid_ (hu3.ex ed)
              have HU4 := hid_ (hu4.ex ed)
              obtain ⟨g0, g1, g2⟩ := HC.out _ (hx13.trans ed)
              clear hx13 hu3 hu4 ed a0 a1 a2 b0 b1 b2 c0 c1 c2
              go_upto_region 7 with fail
              obtain ⟨VB, hVB⟩ : ∃ B, w13.heap.size = B := ⟨_, rfl⟩
              rw [hVB] at d0 d1 d2
              try simp only [hVB]
              clear hVB HC
              generalize w13.alloc (.cells #[.slice na V.perm.length nc, .slice oa V.scale.length oc, .int .i64 V.frob] 26) = w14 at *
              have HC := hid_ (fun w' (h : Ex w14 w') => (⟨h.cell d0, h.cell d1, h.cell d2⟩ : _ ∧ _ ∧ _))
              obtain ⟨a0, a1, a2, -⟩ := HALL.out w14 HX13.out
              go_wp2_with fail
              refine (HW4.out w14 (HX.out.trans HX13.out) _ _ HU1.out HU2.out).mono ?_
              rintro e w15 ⟨⟨av, rfl, hav⟩, hx15⟩
              obtain ⟨aa, ac, rfl, -⟩ := hav.open
              have HX15 := hid_ (HX13.out.trans hx15)
              have HY := hid_ (HY.out.ex hx15)
              have HZ := hid_ (HZ.out.ex hx15)
              have HU3 := hid_ (HU3.out.ex hx15)
              have HU4 := hid_ (HU4.out.ex hx15)
              have HAV := hid_ hav
              clear d0 d1 d2
              obtain ⟨d0, d1, d2⟩ := HC.out _ hx15
              clear hx15 hav g0 g1 g2 a0 a1 a2 HU1 HU2
              obtain ⟨a0, a1, a2, -⟩ := HALL.out w15 HX15.out
              go_wp2_with fail
              refine (HW5.out w15 (HX.out.trans HX15.out) _ _ _ HU3.out HU4.out HY.out).mono ?_
              rintro e w16 ⟨⟨bv, rfl, hbv⟩, hx16⟩
              obtain ⟨ba, bc, rfl, -⟩ := hbv.open
              have HX16 := hid_ (HX15.out.trans hx16)
              have HY := hid_ (HY.out.ex hx16)
              have HZ := hid_ (HZ.out.ex hx16)
              have HAV := hid_ (HAV.out.ex hx16)
              have HBV := hid_ hbv
              clear hx16 hbv d0 d1 d2 a0 a1 a2 HU3 HU4
              go_wp2_with fail
              refine (k_ints _ _ _ Z HAV.out HZ.out).mono ?_
              rintro e w17 ⟨rfl, hx17⟩
              have HX17 := hid_ (HX16.out.trans hx17)
              have HY := hid_ (HY.out.ex hx17)
              have HBV := hid_ (HBV.out.ex hx17)
              clear hx17
              go_wp2_with fail
              refine (k_ints _ _ _ x HBV.out (HXV.out.ex (HX.out.trans HX17.out))).mono ?_
              rintro e w18 ⟨rfl, hx18⟩
              have HX18 := hid_ (HX17.out.trans hx18)
              have HY := hid_ (HY.out.ex hx18)
              clear hx18
              have HG1 := hid_ (rWeight_any w18 Y _ HY.out)
              have HG2 := hid_ (rWeight_any w18 x _ (HXV.out.ex (HX.out.trans HX18.out)))
              rw [HWG.out] at HG1
              obtain ⟨G, hG⟩ : ∃ G, wgtK x x.length = G := ⟨_, rfl⟩
              rw [hG] at HG1 HG2
              clear hG
              have kg : ((G : Int) == (G : Int)) = true := by simp
              go_wp2_with fail
              refine HG1.out.mono ?_
              rintro e w19 ⟨rfl, rfl⟩
              go_wp2_with fail
              refine HG2.out.mono ?_
              rintro e w20 ⟨rfl, rfl⟩
              go_wp2_with fail
              go_ret
              exact ⟨rfl, HX.out.trans HX18.out⟩
end Go.Proofs.YtgdmlmhpineibaaGreat
