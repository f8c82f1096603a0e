/- Plain: what Apply hands back as a map of codes; the end of EquivalenceSound. -/
/- Walk of EquivalenceSound (printed by gen_snd.py). -/
import Derived.Test.YtgdmlmhpineibaaGreatZb43
import Derived.Test.YtgdmlmhpineibaaGreatZb47
import Derived.Test.YtgdmlmhpineibaaGreatZb50
import Derived.Test.YtgdmlmhpineibaaGreatZb51
import Derived.Test.YtgdmlmhpineibaaGreatZb52
namespace Go.Proofs.YtgdmlmhpineibaaGreat
set_option linter.unusedVariables false
set_option linter.unusedSimpArgs false
open Go.RowKit

theorem codO_two {p m n : Int} {ml : List Int} {rows : List (List Int)} (h : CodO p m ml n rows 0) : ∃ pn mn N : Nat, p = pn ∧ m = mn ∧ n = N ∧ FSh pn mn ml ∧ IsF pn mn (lw ml) ∧ 1 ≤ N ∧ N ≤ 64 ∧ rows.length ≤ 256 ∧ ∀ r ∈ rows, r.length = N ∧ entS (pn ^ mn) r = 0 := by
  obtain ⟨hF, hn1, hn2⟩ := codO_fld h
  rcases h with ⟨_, h⟩ | ⟨_, h1, h2⟩ | ⟨h1, h2, h3⟩
  · cases h
  · exact absurd h2.symm h1
  · rcases h3 with ⟨h3, h4⟩ | ⟨_, pn, mn, N, piv, a', rfl, rfl, rfl, _, hm, _⟩
    · exact absurd h4.symm h3
    · obtain ⟨p1, m1, e1, e2, hsh, _, hI⟩ := hF
      obtain rfl : pn = p1 := by omega
      obtain rfl : mn = m1 := by omega
      obtain ⟨_, _, s3, s4⟩ := mchk_shape hm
      exact ⟨pn, mn, N, rfl, rfl, rfl, hsh, hI, by omega, by omega, s3, fun r hr => ⟨by have := (s4 r hr).1; omega, (s4 r hr).2⟩⟩
theorem rowsF_rowsL {N k i j : Nat} {a : Nat → Nat → Int} (hi : i < k) (hj : j < N) : rowsF (rowsL N k a) i j = a i j := by
  unfold rowsF
  rw [List.getD_eq_getElem?_getD (l := rowsL N k a), rowsL_get hi]
  exact eil_getD hj _
/-- The canonical rows have the same orthogonal words. -/
theorem elO_sol {p m : Nat} {ml : List Int} {N R : Nat} {a a' : Nat → Nat → Int} {piv : List Nat} (hp : 2 ≤ p) (h : ElO p m ml N R a a' piv) (x : Nat → Int) : Sol p m ml N (rowsL N piv.length a').length (rowsF (rowsL N piv.length a')) x ↔ Sol p m ml N R a x := by
  obtain ⟨c, hc, hP, hend, hS⟩ := h
  rw [← hS x, rowsL_len]
  have e : ∀ i, i < piv.length → dt p m ml N (rowsF (rowsL N piv.length a') i) x = dt p m ml N (a' i) x := fun i hi => dt_congr (fun j hj => rowsF_rowsL hi hj) fun _ _ => rfl
  constructor
  · intro h i hi
    by_cases hip : i < piv.length
    · rw [← e i hip]; exact h i hip
    · refine dt_zero hp fun j hj => ?_
      rcases hend with h1 | h1
      · omega
      · exact hP.tail i j (by omega) hi (by omega)
  · intro h i hi
    rw [e i hi]
    exact h i (by have := hP.le; omega)
theorem rowsF_imL {p m : Nat} {ml pl ul : List Int} {N : Nat} {l1 : List (List Int)} {i j : Nat} (hp : 2 ≤ p) (hm : 1 ≤ m) (hi : i < l1.length) (hj : j < N) : rowsF (imL p m ml pl ul 0 N l1 l1.length) i j = plc (piF pl) (mpF p m ml ul (rowsF l1 i)) N j := by
  have e : (imL p m ml pl ul 0 N l1 l1.length).getD i [] = il N (imgF p m ml pl ul 0 (l1.getD i []) N) := by
    unfold imL
    rw [List.getD_eq_getElem?_getD, List.getElem?_map, List.getElem?_take_of_lt hi, List.getElem?_eq_getElem hi, List.getD_eq_getElem?_getD, List.getElem?_eq_getElem hi]
    rfl
  show ((imL p m ml pl ul 0 N l1 l1.length).getD i []).getD j 0 = _
  rw [e, eil_getD hj]
  rfl
theorem sol_imL {p m : Nat} {ml pl ul : List Int} {N : Nat} {l1 : List (List Int)} (hp : 2 ≤ p) (hm : 1 ≤ m) (x : Nat → Int) : Sol p m ml N (imL p m ml pl ul 0 N l1 l1.length).length (rowsF (imL p m ml pl ul 0 N l1 l1.length)) x ↔ Sol p m ml N l1.length (fun i => plc (piF pl) (mpF p m ml ul (rowsF l1 i)) N) x := by
  rw [imL_len (Nat.le_refl _)]
  have e : ∀ i, i < l1.length → dt p m ml N (rowsF (imL p m ml pl ul 0 N l1 l1.length) i) x = dt p m ml N (plc (piF pl) (mpF p m ml ul (rowsF l1 i)) N) x := fun i hi => dt_congr (fun j hj => rowsF_imL hp hm hi hj) fun _ _ => rfl
  exact ⟨fun h i hi => by show dt p m ml N (plc _ _ N) x = 0; rw [← e i hi]; exact h i hi, fun h i hi => by rw [e i hi]; exact h i hi⟩
/-- A map whose image is the other code takes the one to the other. -/
theorem takes_of {p m : Nat} {ml pl ul : List Int} {N : Nat} {l1 l2 : List (List Int)} (h : MonOK p m ml pl ul 0 N) (h0 : ∀ i, i < N → 0 ≤ pl.getD i 0) {a' : Nat → Nat → Int} {piv : List Nat} (hel : ElO p m ml N (imL p m ml pl ul 0 N l1 l1.length).length (rowsF (imL p m ml pl ul 0 N l1 l1.length)) a' piv) (hd : rowsL N piv.length a' = l2) : Takes p m ml N l1 l2 pl ul := by
  refine ⟨h.pll, h.sll, h0, h.inj, h.sc, fun x => ?_⟩
  rw [← hd, elO_sol h.hp hel x]
  exact sol_imL h.hp h.hm x
theorem ckE_ok {E : Int} {R : Nat × Int} {es : List Rf} (h : ckE E R es = 0) : E = 0 ∧ R.2 = 0 := by
  unfold ckE at h
  split at h
  · rename_i h1; exact absurd h h1
  · rename_i h1
    split at h
    · cases h
    · exact ⟨by omega, h⟩
theorem take_of_getD {pl tl : List Int} (h : tl.length ≤ pl.length) (hall : ∀ i, i < tl.length → pl.getD i 0 = tl.getD i 0) : pl.take tl.length = tl := by
  refine List.ext_getElem (by rw [List.length_take]; omega) fun i h1 h2 => ?_
  have := hall i h2
  rw [List.getD_eq_getElem?_getD, List.getElem?_eq_getElem (by omega), List.getD_eq_getElem?_getD, List.getElem?_eq_getElem h2] at this
  rw [List.getElem_take]
  exact this
/-- The end of EquivalenceSound. -/
theorem snd_law {c d : CdV} {tl sl : List Int} {es : List Rf} {pl ul : List Int} {fr : Int} {e1 e2 : Int} (ho1 : CodO c.p c.m c.ml c.n c.rows e1) (ho2 : e1 = 0 → CodO d.p d.m d.ml d.n d.rows e2) (hx : ExtP pl ul fr tl sl)
    (hck : ckE (stE e1 e2 (samF c.p c.m c.ml d.p d.m d.ml) c.n d.n tl sl (c.p.toNat ^ c.m.toNat)) (flS c d es tl sl) es = 0) (hmon : monS c.p c.m c.ml c.n pl ul fr = 0)
    {pn mn N : Nat} {piv : List Nat} {a' : Nat → Nat → Int} (hp : c.p = pn) (hm : c.m = mn) (hn : c.n = N) (hel : ElO pn mn c.ml N (imA c.p c.m c.ml pl ul fr c.n c.rows).length (rowsF (imA c.p c.m c.ml pl ul fr c.n c.rows)) a' piv) : samC ⟨c.p, c.m, c.ml, N, rowsL N piv.length a'⟩ d = false := by
  apply Bool.eq_false_iff.2
  intro hs
  have hd := samC_iff.1 hs
  obtain ⟨hE, hR⟩ := ckE_ok hck
  obtain ⟨k1, k2, k3, k4, k5, k6, k7, k8, k9⟩ := stE_ok hE
  subst k1
  have ho2 := ho2 rfl
  subst k2
  obtain ⟨x1, x2, x3, x4, x5⟩ := hx
  subst x1
  obtain ⟨p1, m1, N1, f1, e1, e2, e3, e4, hf, hc0, hM⟩ := monOK_of hmon
  obtain rfl : pn = p1 := by omega
  obtain rfl : mn = m1 := by omega
  obtain rfl : N = N1 := by omega
  obtain rfl : f1 = 0 := by omega
  obtain ⟨p2, m2, N2, g1, g2, g3, _, hI, _, _, q1, q2⟩ := codO_two ho1
  obtain rfl : pn = p2 := by omega
  obtain rfl : mn = m2 := by omega
  obtain rfl : N = N2 := by omega
  obtain ⟨p3, m3, N3, j1, j2, j3, _, _, _, _, r1, r2⟩ := codO_two ho2
  have hdr : d.rows = rowsL N piv.length a' := by rw [← hd]
  have hdp : d.p = c.p := by rw [← hd]
  have hdm : d.m = c.m := by rw [← hd]
  have hdn : d.n = (N : Int) := by rw [← hd]
  obtain rfl : pn = p3 := by omega
  obtain rfl : mn = m3 := by omega
  obtain rfl : N = N3 := by omega
  have him : imA c.p c.m c.ml pl ul 0 c.n c.rows = imL pn mn c.ml pl ul 0 N c.rows c.rows.length := by
    unfold imA
    rw [hp, hm, hn]
    simp
  rw [him] at hel
  obtain ⟨_, _, _, q3, _, q5, _⟩ := mon_ok hmon
  have hT : Takes pn mn c.ml N c.rows d.rows pl ul := takes_of hM (fun i hi => (rngB_at q5 (i := i) (by omega)).1) hel hdr.symm
  have hW : Two pn mn c.ml N c.rows d.rows := ⟨hf.p2, hf.m1, hI, q2, r2⟩
  refine fl_sound hW hT (es := es) (N - tl.length) 0 tl.length (by omega) ?_
  rw [take_of_getD (by omega) fun i hi => (x5 i hi).1, show ul.take tl.length = sl from by rw [x4]; exact take_of_getD (by omega) fun i hi => (x5 i (by omega)).2]
  unfold flS at hR
  rw [hp, hm, hn] at hR
  simpa using hR
end Go.Proofs.YtgdmlmhpineibaaGreat
namespace Go.Proofs.YtgdmlmhpineibaaGreat
set_option linter.unusedVariables false
set_option linter.unusedSimpArgs false
open Go.RowKit

set_option maxRecDepth 100000 in
set_option maxHeartbeats 8000000 in
theorem EquivalenceSound_any (w : World) (c d : CdV) (m1 m2 v1 v2 : Value) (hc : c.at w m1 v1) (hd : d.at w m2 v2) (tv sv ev pv uv : Value) (tl sl : List Int) (es : List Rf) (pl ul : List Int) (fr : Int) (ht : ISl w tv tl) (hs : ISl w sv sl) (he : RSl w ev es) (hp : ISl w pv pl) (hu : ISl w uv ul) :
    Calls Tryz.prog 8 #[c.arg m1 v1, d.arg m2 v2, .agg #[tv, sv, ev, pv, uv, .int .i64 fr]] w fun r w' => r = .returned (.bool true) ∧ Ex w w' := by
  obtain ⟨c0, c1, c2, c3, c4⟩ := boxC5 w c m1 v1
  obtain ⟨d0, d1, d2, d3, d4⟩ := boxC5 (w.alloc (c.obj m1 v1)) d m2 v2
  have hbx := boxAt_new ((w.alloc (c.obj m1 v1)).alloc (d.obj m2 v2)) [tv, sv, ev, pv, uv, .int .i64 fr] _ 61 rfl
  have hz1 : (w.alloc (c.obj m1 v1)).heap.size = w.heap.size + 1 := by simp
  have hz2 : ((w.alloc (c.obj m1 v1)).alloc (d.obj m2 v2)).heap.size = w.heap.size + 1 + 1 := by simp
  have e1 := e_al w (c.obj m1 v1)
  have e2 := e_al (w.alloc (c.obj m1 v1)) (d.obj m2 v2)
  have e3 := e_al ((w.alloc (c.obj m1 v1)).alloc (d.obj m2 v2)) (.cells #[tv, sv, ev, pv, uv, .int .i64 fr] 61)
  rw [hz2] at hbx
  rw [hz1] at d0 d1 d2 d3 d4
  have b0 := hbx 0 _ rfl
  have b1 := hbx 1 _ rfl
  have b2 := hbx 2 _ rfl
  have b3 := hbx 3 _ rfl
  have b4 := hbx 4 _ rfl
  have b5 := hbx 5 _ rfl
  replace c0 := (e2.trans e3).cell c0
  replace c1 := (e2.trans e3).cell c1
  replace c2 := (e2.trans e3).cell c2
  replace c3 := (e2.trans e3).cell c3
  replace c4 := (e2.trans e3).cell c4
  replace d0 := e3.cell d0
  replace d1 := e3.cell d1
  replace d2 := e3.cell d2
  replace d3 := e3.cell d3
  replace d4 := e3.cell d4
  have HX := hid_ (e1.trans (e2.trans e3))
  have HAW := hid_ (fun w' => awake_any w')
  have HF1 := hid_ (fun (w' : World) (h : Ex w w') => few31_any w' c m1 v1 (hc.ex h))
  have HF2 := hid_ (fun (w' : World) (h : Ex w w') => few31_any w' d m2 v2 (hd.ex h))
  have HRF := hid_ (fun (w' : World) (h : Ex w w') => rFewRf_any w' es ev (he.ex h))
  have HSH := hid_ (fun (w' : World) (h : Ex w w') => short_any w' pl ul pv uv (hp.ex h) (hu.ex h) fr)
  have HXT := hid_ (fun (w' : World) (h : Ex w w') => rExtends_any w' pl ul tl sl pv uv tv sv fr (hp.ex h) (hu.ex h) (ht.ex h) (hs.ex h))
  have HCR := hid_ (fun (w' : World) (h : Ex w w') => CheckRefutation_any w' c d m1 m2 v1 v2 (hc.ex h) (hd.ex h) tl sl tv sv (ht.ex h) (hs.ex h) es ev (he.ex h))
  have HAP := hid_ (fun (w' : World) (h : Ex w w') => Apply_any w' c.p c.m c.ml m1 (hc.ex h).m c.n c.rows v1 (hc.ex h).g pl ul pv uv (hp.ex h) (hu.ex h) fr)
  have HSA := hid_ (fun (w' : World) (h : Ex w w') (y : CdV) (m3 v3 : Value) (hy : y.at w' m3 v3) => rCSame_any w' y d m3 m2 v3 v2 hy (hd.ex h))
  have HLW := hid_ (fun e1 e2 a b h4 h5 h6 (pn mn N : Nat) (piv : List Nat) (a' : Nat → Nat → Int) h7 h8 h9 h10 => snd_law (c := c) (d := d) (tl := tl) (sl := sl) (es := es) (pl := pl) (ul := ul) (fr := fr) (e1 := e1) (e2 := e2) a b h4 h5 h6 (pn := pn) (mn := mn) (N := N) (piv := piv) (a' := a') h7 h8 h9 h10)
  obtain ⟨ta, tc, rfl, -, t2, -⟩ := ht.open
  obtain ⟨sa, sc, rfl, -, s2, -⟩ := hs.open
  obtain ⟨ra, rc, rfl, r2, -, -⟩ := rsl_open he
  obtain ⟨pa, pc, rfl, -, p2, -⟩ := hp.open
  obtain ⟨ua, uc, rfl, -, u2, -⟩ := hu.open
  obtain ⟨x1, y1, rfl, -, z1, -⟩ := hc.g.open
  obtain ⟨x2, y2, rfl, -, z2, -⟩ := hd.g.open
  obtain ⟨x3, y3, rfl, -, z3, -⟩ := hc.m.open
  obtain ⟨x4, y4, rfl, -, z4, -⟩ := hd.m.open
  unfold maxLen at t2 s2 r2 p2 u2 z1 z2 z3 z4
  obtain ⟨p, m, ml, n, rows⟩ := c
  obtain ⟨p', m', ml', n', rows'⟩ := d
  obtain ⟨B, hB⟩ : ∃ B, w.heap.size = B := ⟨_, rfl⟩
  rw [hB] at c0 c1 c2 c3 c4 d0 d1 d2 d3 d4 b0 b1 b2 b3 b4 b5
  dsimp only [CdV.arg, CdV.obj] at *
  obtain ⟨S1, hS1⟩ : ∃ S, shoB pl ul = S := ⟨_, rfl⟩
  rw [hS1] at HSH
  clear hc hd ht hs he hp hu e1 e2 e3 hz1 hz2 hbx hS1
  go_enter Tryz.func8, Tryz.ntmps8
  go_upto_region 1 with fail
  try simp only [hB]
  clear hB
  generalize ((w.alloc (.cells #[.int .i64 p, .int .i64 m, .slice x3 ml.length y3, .int .i64 n, .slice x1 rows.length y1] 47)).alloc (.cells #[.int .i64 p', .int .i64 m', .slice x4 ml'.length y4, .int .i64 n', .slice x2 rows'.length y2] 47)).alloc (.cells #[.slice ta tl.length tc, .slice sa sl.length sc, .slice ra es.length rc, .slice pa pl.length pc, .slice ua ul.length uc, .int .i64 fr] 61) = w1 at *
  have HALL := hid_ (fun w' (h : Ex w1 w') => (⟨h.cell c0, h.cell c1, h.cell c2, h.cell c3, h.cell c4, h.cell d0, h.cell d1, h.cell d2, h.cell d3, h.cell d4, h.cell b0, h.cell b1, h.cell b2, h.cell b3, h.cell b4, h.cell b5⟩ : _ ∧ _ ∧ _ ∧ _ ∧ _ ∧ _ ∧ _ ∧ _ ∧ _ ∧ _ ∧ _ ∧ _ ∧ _ ∧ _ ∧ _ ∧ _))
  have bad : ∀ w', Ex w1 w' → Calls Tryz.prog 12 #[] w' fun r w'' => r = .returned (.bool true) ∧ Ex w1 w'' := fun w' h => (HAW.out w').mono fun r w'' ⟨h1, h2⟩ => ⟨h1, h.trans h2⟩
  have BAD := hid_ bad
  have HX1 := hid_ (Ex.refl w1)
  clear bad
  go_wp2_with fail
  refine (HAW.out w1).mono ?_
  rintro e w2 ⟨rfl, hx2⟩
  have HX2 := hid_ (HX1.out.trans hx2)
  clear hx2 c0 c1 c2 c3 c4 d0 d1 d2 d3 d4 b0 b1 b2 b3 b4 b5
  obtain ⟨c0, c1, c2, c3, c4, d0, d1, d2, d3, d4, b0, b1, b2, b3, b4, b5⟩ := HALL.out w2 HX2.out
  go_wp2_with fail
  refine (HF1.out w2 (HX.out.trans HX2.out)).mono ?_
  rintro e w3 ⟨⟨f1, rfl, -⟩, hx3⟩
  have HX3 := hid_ (HX2.out.trans hx3)
  clear hx3 c0 c1 c2 c3 c4 d0 d1 d2 d3 d4 b0 b1 b2 b3 b4 b5
  obtain ⟨c0, c1, c2, c3, c4, d0, d1, d2, d3, d4, b0, b1, b2, b3, b4, b5⟩ := HALL.out w3 HX3.out
  cases f1 with
  | false =>
    go_wp2_with fail
    refine (BAD.out _ HX3.out).mono ?_
    rintro e w99 ⟨rfl, hx99⟩
    have HX99 := hid_ hx99
    clear hx99
    go_wp2_with fail
    go_ret
    exact ⟨rfl, HX.out.trans HX99.out⟩
  | true =>
    go_wp2_with fail
    refine (HF2.out w3 (HX.out.trans HX3.out)).mono ?_
    rintro e w4 ⟨⟨f2, rfl, -⟩, hx4⟩
    have HX4 := hid_ (HX3.out.trans hx4)
    clear hx4 c0 c1 c2 c3 c4 d0 d1 d2 d3 d4 b0 b1 b2 b3 b4 b5
    obtain ⟨c0, c1, c2, c3, c4, d0, d1, d2, d3, d4, b0, b1, b2, b3, b4, b5⟩ := HALL.out w4 HX4.out
    cases f2 with
    | false =>
      go_wp2_with fail
      refine (BAD.out _ HX4.out).mono ?_
      rintro e w99 ⟨rfl, hx99⟩
      have HX99 := hid_ hx99
      clear hx99
      go_wp2_with fail
      go_ret
      exact ⟨rfl, HX.out.trans HX99.out⟩
    | true =>
      by_cases z1 : 100 < tl.length
      · have q_tl : decide ((100 : Int) < (tl.length : Int)) = true := by simp; omega
        have j_tl : (100 : Int) < (tl.length : Int) := by omega
        clear z1
        go_wp2_with fail
        refine (BAD.out _ HX4.out).mono ?_
        rintro e w99 ⟨rfl, hx99⟩
        have HX99 := hid_ hx99
        clear hx99
        go_wp2_with fail
        go_ret
        exact ⟨rfl, HX.out.trans HX99.out⟩
      · have q_tl : decide ((100 : Int) < (tl.length : Int)) = false := by simp; omega
        have j_tl : ¬ (100 : Int) < (tl.length : Int) := by omega
        have HZ5 := hid_ z1
        clear z1
        by_cases z1 : 100 < sl.length
        · have q_sl : decide ((100 : Int) < (sl.length : Int)) = true := by simp; omega
          have j_sl : (100 : Int) < (sl.length : Int) := by omega
          clear z1
          go_wp2_with fail
          refine (BAD.out _ HX4.out).mono ?_
          rintro e w99 ⟨rfl, hx99⟩
          have HX99 := hid_ hx99
          clear hx99
          go_wp2_with fail
          go_ret
          exact ⟨rfl, HX.out.trans HX99.out⟩
        · have q_sl : decide ((100 : Int) < (sl.length : Int)) = false := by simp; omega
          have j_sl : ¬ (100 : Int) < (sl.length : Int) := by omega
          have HZ6 := hid_ z1
          clear z1
          go_wp2_with fail
          refine (HRF.out w4 (HX.out.trans HX4.out)).mono ?_
          rintro e w7 ⟨⟨f3, rfl, -⟩, hx7⟩
          have HX7 := hid_ (HX4.out.trans hx7)
          clear hx7 c0 c1 c2 c3 c4 d0 d1 d2 d3 d4 b0 b1 b2 b3 b4 b5
          obtain ⟨c0, c1, c2, c3, c4, d0, d1, d2, d3, d4, b0, b1, b2, b3, b4, b5⟩ := HALL.out w7 HX7.out
          cases f3 with
          | false =>
            go_wp2_with fail
            refine (BAD.out _ HX7.out).mono ?_
            rintro e w99 ⟨rfl, hx99⟩
            have HX99 := hid_ hx99
            clear hx99
            go_wp2_with fail
            go_ret
            exact ⟨rfl, HX.out.trans HX99.out⟩
          | true =>
            go_wp2_with fail
            refine (HSH.out w7 (HX.out.trans HX7.out)).mono ?_
            rintro e w8 ⟨rfl, hx8⟩
            have HX8 := hid_ (HX7.out.trans hx8)
            clear hx8 c0 c1 c2 c3 c4 d0 d1 d2 d3 d4 b0 b1 b2 b3 b4 b5
            obtain ⟨c0, c1, c2, c3, c4, d0, d1, d2, d3, d4, b0, b1, b2, b3, b4, b5⟩ := HALL.out w8 HX8.out
            cases S1 with
            | false =>
              go_wp2_with fail
              refine (BAD.out _ HX8.out).mono ?_
              rintro e w99 ⟨rfl, hx99⟩
              have HX99 := hid_ hx99
              clear hx99
              go_wp2_with fail
              go_ret
              exact ⟨rfl, HX.out.trans HX99.out⟩
            | true =>
              go_wp2_with fail
              refine (HXT.out w8 (HX.out.trans HX8.out)).mono ?_
              rintro e w9 ⟨⟨f4, rfl, hf4⟩, hx9⟩
              have HX9 := hid_ (HX8.out.trans hx9)
              have HF4 := hid_ hf4
              clear hf4
              clear hx9 c0 c1 c2 c3 c4 d0 d1 d2 d3 d4 b0 b1 b2 b3 b4 b5
              obtain ⟨c0, c1, c2, c3, c4, d0, d1, d2, d3, d4, b0, b1, b2, b3, b4, b5⟩ := HALL.out w9 HX9.out
              cases f4 with
              | false =>
                go_wp2_with fail
                refine (BAD.out _ HX9.out).mono ?_
                rintro e w99 ⟨rfl, hx99⟩
                have HX99 := hid_ hx99
                clear hx99
                go_wp2_with fail
                go_ret
                exact ⟨rfl, HX.out.trans HX99.out⟩
              | true =>
                have HEX := hid_ (HF4.out.1 rfl)
                clear HF4
                go_wp2_with fail
                refine (HCR.out w9 (HX.out.trans HX9.out)).mono ?_
                rintro e w10 ⟨⟨e1, e2, ho1, ho2, rfl⟩, hx10⟩
                have HX10 := hid_ (HX9.out.trans hx10)
                have HO1 := hid_ ho1
                have HO2 := hid_ ho2
                clear ho1 ho2
                clear hx10 c0 c1 c2 c3 c4 d0 d1 d2 d3 d4 b0 b1 b2 b3 b4 b5
                obtain ⟨c0, c1, c2, c3, c4, d0, d1, d2, d3, d4, b0, b1, b2, b3, b4, b5⟩ := HALL.out w10 HX10.out
                obtain ⟨Z, hZ⟩ : ∃ Z, ckE (stE e1 e2 (samF p m ml p' m' ml') n n' tl sl (p.toNat ^ m.toNat)) (flS ⟨p, m, ml, n, rows⟩ ⟨p', m', ml', n', rows'⟩ es tl sl) es = Z := ⟨_, rfl⟩
                rw [hZ]
                have HZ := hid_ hZ
                clear hZ
                by_cases z1 : Z = 0
                rotate_left
                · have y1 : (Z != 0) = true := by simpa using z1
                  clear z1
                  go_wp2_with fail
                  go_ret
                  exact ⟨rfl, HX.out.trans HX10.out⟩
                subst z1
                go_wp2_with fail
                refine (HAP.out w10 (HX.out.trans HX10.out)).mono ?_
                rintro e w20 ⟨⟨e3, ho3, hap⟩, hx20⟩
                have HX20 := hid_ (HX10.out.trans hx20)
                clear hx20 c0 c1 c2 c3 c4 d0 d1 d2 d3 d4 b0 b1 b2 b3 b4 b5
                obtain ⟨c0, c1, c2, c3, c4, d0, d1, d2, d3, d4, b0, b1, b2, b3, b4, b5⟩ := HALL.out w20 HX20.out
                rcases hap with ⟨h3, rfl⟩ | ⟨-, h3, rfl⟩ | ⟨h3, hmon, hcn⟩
                · have y1 : (e3 != 0) = true := by simpa using h3
                  clear h3
                  go_wp2_with fail
                  go_ret
                  exact ⟨rfl, HX.out.trans (HX20.out.alloc _)⟩
                · obtain ⟨Q, hQ⟩ : ∃ Q, monS p m ml n pl ul fr = Q := ⟨_, rfl⟩
                  rw [hQ] at h3 ⊢
                  have y1 : (Q != 0) = true := by simpa using h3
                  clear h3 hQ
                  go_wp2_with fail
                  go_ret
                  exact ⟨rfl, HX.out.trans (HX20.out.alloc _)⟩
                · rcases hcn with ⟨h4, rfl⟩ | ⟨-, pn, mn, N, piv, a', rv, v', ep, em, en, -, -, rfl, hel, hv', hrv, -, -⟩
                  · obtain ⟨Q, hQ⟩ : ∃ Q, newE p m ml n (imA p m ml pl ul fr n rows) = Q := ⟨_, rfl⟩
                    rw [hQ] at h4 ⊢
                    have y1 : (Q != 0) = true := by simpa using h4
                    clear h4 hQ
                    go_wp2_with fail
                    go_ret
                    exact ⟨rfl, HX.out.trans (HX20.out.alloc _)⟩
                  · have HFL := hid_ (HLW.out e1 e2 HO1.out HO2.out HEX.out HZ.out hmon pn mn N piv a' ep em en hel)
                    clear hmon
                    subst ep em en
                    obtain ⟨b0, b1, b2, b3, b4⟩ := boxC5 w20 ⟨pn, mn, ml, N, rowsL N piv.length a'⟩ v' rv
                    have eb := e_al w20 ((⟨pn, mn, ml, N, rowsL N piv.length a'⟩ : CdV).obj v' rv)
                    have HY := hid_ (show (⟨pn, mn, ml, N, rowsL N piv.length a'⟩ : CdV).at (w20.alloc ((⟨pn, mn, ml, N, rowsL N piv.length a'⟩ : CdV).obj v' rv)) v' rv from ⟨hv'.ex eb, hrv.ex eb⟩)
                    obtain ⟨va, vc, rfl, -, -, -⟩ := hv'.open
                    obtain ⟨ra', rc', rfl, -, -, -⟩ := hrv.open
                    obtain ⟨L, hL⟩ : ∃ L, rowsL N piv.length a' = L := ⟨_, rfl⟩
                    rw [hL] at b0 b1 b2 b3 b4 eb HY HFL ⊢
                    have HX21 := hid_ (HX20.out.trans eb)
                    have HS21 := hid_ (HSA.out _ (HX.out.trans HX21.out) _ _ _ HY.out)
                    rw [HFL.out] at HS21
                    dsimp only [CdV.arg, CdV.obj] at b0 b1 b2 b3 b4 HX21 HS21 eb
                    obtain ⟨D, hD⟩ : ∃ D, w20.heap.size = D := ⟨_, rfl⟩
                    rw [hD] at b0 b1 b2 b3 b4
                    obtain ⟨d0, d1, d2, d3, d4⟩ := (HALL.out _ HX21.out).2.2.2.2.2
                    clear c0 c1 c2 c3 c4 hv' hrv hel hL h3
                    clear HY
                    go_upto_region 6 with fail
                    try simp only [hD]
                    clear hD
                    generalize w20.alloc (.cells #[.int .i64 pn, .int .i64 mn, .slice va ml.length vc, .int .i64 N, .slice ra' L.length rc'] 47) = w21 at *
                    go_wp2_with fail
                    refine HS21.out.mono ?_
                    rintro e w22 ⟨rfl, hx22⟩
                    have HX22 := hid_ (HX21.out.trans hx22)
                    clear hx22
                    go_wp2_with fail
                    go_ret
                    exact ⟨rfl, HX.out.trans HX22.out⟩
end Go.Proofs.YtgdmlmhpineibaaGreat
