/- Walks of the law's few and of codewrightref31's Few, Extends and Small. -/
import Derived.Test.YtgdmlmhpineibaaGreatZb37
import Derived.Test.YtgdmlmhpineibaaGreatZb46
import Derived.Test.YtgdmlmhpineibaaGreatZb47
namespace Go.Proofs.YtgdmlmhpineibaaGreat
set_option linter.unusedVariables false
set_option linter.unusedSimpArgs false
open Go.RowKit

def FewC (c : CdV) : Prop := fewM 0 c.rows 80 = true ∧ (c.n ≤ 8 ∨ 64 < c.n) ∧ ordS c.p c.m ≤ 16
set_option maxRecDepth 100000 in
set_option maxHeartbeats 4000000 in
theorem few31_any (w : World) (c : CdV) (m1 v1 : Value) (hc : c.at w m1 v1) :
    Calls Tryz.prog 27 #[c.arg m1 v1] w fun r w' => BolR (FewC c) r ∧ Ex w w' := by
  obtain ⟨c0, c1, c2, c3, c4⟩ := boxC5 w c m1 v1
  have HX := hid_ (e_al w (c.obj m1 v1))
  have HFW := hid_ (fun (w' : World) (h : Ex w w') => rFew12_any w' c.p c.m m1 c.n c.rows v1 (hc.ex h).g 80 (by decide) (by decide))
  have HOR := hid_ (fun w' => rOrder_any c.p c.m m1 w')
  obtain ⟨x1, y1, rfl, -, z1, -⟩ := hc.g.open
  obtain ⟨x3, y3, rfl, -, z3, -⟩ := hc.m.open
  obtain ⟨p, m, ml, n, rows⟩ := c
  have HSM := hid_ (show FewC ⟨p, m, ml, n, rows⟩ ↔ fewM 0 rows 80 = true ∧ (n ≤ 8 ∨ 64 < n) ∧ ordS p m ≤ 16 from Iff.rfl)
  obtain ⟨B, hB⟩ : ∃ B, w.heap.size = B := ⟨_, rfl⟩
  rw [hB] at c0 c1 c2 c3 c4
  dsimp only [CdV.arg, CdV.obj] at *
  obtain ⟨P, hP⟩ : ∃ P, FewC ⟨p, m, ml, n, rows⟩ = P := ⟨_, rfl⟩
  rw [hP] at HSM ⊢
  obtain ⟨F, hF⟩ : ∃ F, fewM 0 rows 80 = F := ⟨_, rfl⟩
  rw [hF] at HFW HSM
  obtain ⟨Q, hQ⟩ : ∃ Q, ordS p m = Q := ⟨_, rfl⟩
  rw [hQ] at HOR HSM
  clear hc hF hP hQ z1 z3
  go_enter Tryz.func27, Tryz.ntmps27
  go_upto_region 1 with fail
  try simp only [hB]
  clear hB
  generalize w.alloc (.cells #[.int .i64 p, .int .i64 m, .slice x3 ml.length y3, .int .i64 n, .slice x1 rows.length y1] 47) = w1 at *
  have HALL := hid_ (fun w' (h : Ex w1 w') => (⟨h.cell c0, h.cell c1, h.cell c2, h.cell c3, h.cell c4⟩ : _ ∧ _ ∧ _ ∧ _ ∧ _))
  go_wp2_with fail
  refine (HFW.out _ HX.out).mono ?_
  rintro e w2 ⟨rfl, hx2⟩
  have HX2 := hid_ hx2
  clear hx2 c0 c1 c2 c3 c4
  obtain ⟨c0, c1, c2, c3, c4⟩ := HALL.out w2 HX2.out
  cases F with
  | false =>
    have HN := hid_ (show ¬ P from fun h => by cases (HSM.out.1 h).1)
    go_wp2_with fail
    go_ret
    exact ⟨bolR_no HN.out, HX.out.trans HX2.out⟩
  | true =>
    by_cases h1 : n ≤ 8
    · have k1 : decide (n ≤ 8) = true := decide_eq_true h1
      have H1 := hid_ h1
      clear h1
      go_wp2_with fail
      refine (HOR.out _).mono ?_
      rintro e w3 ⟨rfl, hx3⟩
      have HX3 := hid_ (HX2.out.trans hx3)
      clear hx3 c0 c1 c2 c3 c4
      by_cases h2 : Q ≤ 16
      · have k2 : decide (Q ≤ 16) = true := decide_eq_true h2
        have HN := hid_ (show P from HSM.out.2 ⟨by first | rfl | trivial, .inl H1.out, h2⟩)
        clear h2
        go_wp2_with fail
        go_ret
        exact ⟨bolR_yes HN.out, HX.out.trans HX3.out⟩
      · have k2 : decide (Q ≤ 16) = false := decide_eq_false h2
        have HN := hid_ (show ¬ P from fun h => h2 (HSM.out.1 h).2.2)
        clear h2
        go_wp2_with fail
        go_ret
        exact ⟨bolR_no HN.out, HX.out.trans HX3.out⟩
    · have k1 : decide (n ≤ 8) = false := decide_eq_false h1
      have H1 := hid_ h1
      clear h1
      by_cases h3 : 64 < n
      · have k3 : decide (64 < n) = true := decide_eq_true h3
        have H3 := hid_ h3
        clear h3
        go_wp2_with fail
        refine (HOR.out _).mono ?_
        rintro e w3 ⟨rfl, hx3⟩
        have HX3 := hid_ (HX2.out.trans hx3)
        clear hx3 c0 c1 c2 c3 c4
        by_cases h2 : Q ≤ 16
        · have k2 : decide (Q ≤ 16) = true := decide_eq_true h2
          have HN := hid_ (show P from HSM.out.2 ⟨by first | rfl | trivial, .inr H3.out, h2⟩)
          clear h2
          go_wp2_with fail
          go_ret
          exact ⟨bolR_yes HN.out, HX.out.trans HX3.out⟩
        · have k2 : decide (Q ≤ 16) = false := decide_eq_false h2
          have HN := hid_ (show ¬ P from fun h => h2 (HSM.out.1 h).2.2)
          clear h2
          go_wp2_with fail
          go_ret
          exact ⟨bolR_no HN.out, HX.out.trans HX3.out⟩
      · have k3 : decide (64 < n) = false := decide_eq_false h3
        have HN := hid_ (show ¬ P from fun h => by rcases (HSM.out.1 h).2.1 with h | h; exact H1.out h; exact h3 h)
        clear h3
        go_wp2_with fail
        go_ret
        exact ⟨bolR_no HN.out, HX.out.trans HX2.out⟩
def FewRf (es : List Rf) : Prop := es.length ≤ 4000 ∧ ∀ i, i < es.length → (es.getD i dRf).msg.length ≤ 100
set_option maxRecDepth 100000 in
set_option maxHeartbeats 4000000 in
theorem rFewRf_any (w : World) (es : List Rf) (ev : Value) (hr : RSl w ev es) :
    Calls Tryz.prog 35 #[.agg #[ev]] w fun r w' => BolR (FewRf es) r ∧ Ex w w' := by
  have b0 := boxRf w ev
  have e0 := e_al w (.cells #[ev] 54)
  obtain ⟨za, zc, rfl, z1, z2, z3⟩ := rsl_open (hr.ex e0)
  unfold maxLen at z1
  have Z3 := hid_ z3
  have HE0 := hid_ e0
  obtain ⟨P, hP⟩ : ∃ P, FewRf es = P := ⟨_, rfl⟩
  have HP := hid_ (show P ↔ es.length ≤ 4000 ∧ ∀ i, i < es.length → (es.getD i dRf).msg.length ≤ 100 from by rw [← hP]; exact Iff.rfl)
  rw [hP]
  clear z3 hr e0 hP
  by_cases h4 : 4000 < es.length
  · have k4 : decide ((4000 : Int) < (es.length : Int)) = true := by simp; omega
    have j4 : (4000 : Int) < (es.length : Int) := by omega
    have HN := hid_ (show ¬ P from fun h => by have := (HP.out.1 h).1; omega)
    clear h4
    go_enter Tryz.func35, Tryz.ntmps35
    go_wp2_with fail
    go_ret
    exact ⟨bolR_no HN.out, HE0.out⟩
  · have k4 : decide ((4000 : Int) < (es.length : Int)) = false := by simp; omega
    have j4 : ¬ (4000 : Int) < (es.length : Int) := by omega
    have H4 := hid_ (show es.length ≤ 4000 from by omega)
    clear h4
    go_enter Tryz.func35, Tryz.ntmps35
    go_wp2_with fail
    obtain ⟨q, hq⟩ : ∃ q, w.heap.size = q := ⟨_, rfl⟩
    rw [hq] at b0
    try simp only [hq]
    clear hq
    generalize w.alloc (.cells #[.slice za es.length zc] 54) = w1 at *
    have B1 := hid_ b0
    clear b0
    go_loopw [4] (fun j' wr => ∃ (j : Nat), j ≤ es.length ∧ j' = .int .i64 j ∧ Hid (∀ i, i < j → (es.getD i dRf).msg.length ≤ 100) ∧ Hid (Ex w1 wr)) (fun j' _ => es.length - (intOf j').toNat)
    case atStart => exact ⟨0, by omega, rfl, hid_ (fun i h => by omega), hid_ (Ex.refl _)⟩
    case round =>
      obtain ⟨j, hj, rfl, hall, hex⟩ := hrel
      have b1 := hex.out.cell B1.out
      by_cases hjl : j < es.length
      · obtain ⟨zb, zo, rfl, hzc⟩ := Z3.out (by omega)
        obtain ⟨mv, c0, c1, c2, c3, hm⟩ := hzc j hjl
        have c0 := hex.out.cell c0
        have c1 := hex.out.cell c1
        have c2 := hex.out.cell c2
        have c3 := hex.out.cell c3
        obtain ⟨l, hl⟩ : ∃ l, (es.getD j dRf).msg = l := ⟨_, rfl⟩
        rw [hl] at hm
        obtain ⟨oa, oc, rfl, _, o2, _⟩ := hm.open
        unfold maxLen at o2
        have i1 : (0 : Int) ≤ (j : Int) := by omega
        have i2 : (j : Int) < (es.length : Int) := by omega
        have HL := hid_ hl
        have HJ := hid_ hjl
        clear hl hm hzc
        by_cases h1 : 100 < l.length
        · have k1 : decide ((100 : Int) < (l.length : Int)) = true := by simp; omega
          have j1 : (100 : Int) < (l.length : Int) := by omega
          have HN := hid_ (show ¬ P from fun h => by have := (HP.out.1 h).2 j HJ.out; rw [HL.out] at this; omega)
          clear h1
          go_wp2_with fail
          go_ret
          exact ⟨bolR_no HN.out, HE0.out.trans hex.out⟩
        · have k1 : decide ((100 : Int) < (l.length : Int)) = false := by simp; omega
          have j1 : ¬ (100 : Int) < (l.length : Int) := by omega
          have HA := hid_ (show ∀ i, i < j + 1 → (es.getD i dRf).msg.length ≤ 100 from fun i hi => by
            by_cases e : i = j
            · rw [e, HL.out]; omega
            · exact hall.out i (by omega))
          clear h1
          go_wp2_with fail
          go_roundw
          case rel => first | exact ⟨j + 1, by omega, by go_num, HA, hex⟩ | ((repeat apply Exists.intro); exact ⟨⟨j + 1, by omega, by go_num, HA, hex⟩, rfl⟩)
          case measure => simp [intOf]; omega
      · have HN := hid_ (show P from HP.out.2 ⟨H4.out, fun i hi => hall.out i (by omega)⟩)
        obtain rfl : j = es.length := by omega
        go_wp2_with fail
        go_ret
        exact ⟨bolR_yes HN.out, HE0.out.trans hex.out⟩
def ExtP (pl sl : List Int) (fr : Int) (tl xl : List Int) : Prop :=
  fr = 0 ∧ tl.length ≤ pl.length ∧ tl.length ≤ sl.length ∧ tl.length = xl.length ∧ ∀ i, i < tl.length → pl.getD i 0 = tl.getD i 0 ∧ sl.getD i 0 = xl.getD i 0
set_option maxRecDepth 100000 in
set_option maxHeartbeats 4000000 in
theorem rExtends_any (w : World) (pl sl tl xl : List Int) (pv sv tv xv : Value) (fr : Int) (hp : ISl w pv pl) (hs : ISl w sv sl) (ht : ISl w tv tl) (hx : ISl w xv xl) :
    Calls Tryz.prog 37 #[.agg #[pv, sv, .int .i64 fr], .agg #[tv, xv]] w fun r w' => BolR (ExtP pl sl fr tl xl) r ∧ Ex w w' := by
  obtain ⟨a0, a1, a2, ea⟩ := boxMo_facts w pv sv fr
  obtain ⟨b0, b1, eb, -⟩ := boxP_facts (w.alloc (.cells #[pv, sv, .int .i64 fr] 26)) tv xv
  have asz : (w.alloc (.cells #[pv, sv, .int .i64 fr] 26)).heap.size = w.heap.size + 1 := by simp
  rw [asz] at b0 b1
  replace a0 := eb.cell a0
  replace a1 := eb.cell a1
  replace a2 := eb.cell a2
  have HX := hid_ (ea.trans eb)
  obtain ⟨pa, pc, rfl, -, p2, p3⟩ := (hp.ex HX.out).open
  obtain ⟨sa, sc, rfl, -, s2, s3⟩ := (hs.ex HX.out).open
  obtain ⟨ta, tc, rfl, t1, t2, t3⟩ := (ht.ex HX.out).open
  obtain ⟨xa, xc, rfl, -, x2, x3⟩ := (hx.ex HX.out).open
  unfold maxLen at p2 s2 t2 x2
  have P3 := hid_ p3
  have S3 := hid_ s3
  have T3 := hid_ t3
  have X3 := hid_ x3
  obtain ⟨B, hB⟩ : ∃ B, w.heap.size = B := ⟨_, rfl⟩
  rw [hB] at a0 a1 a2 b0 b1
  obtain ⟨P, hP⟩ : ∃ P, ExtP pl sl fr tl xl = P := ⟨_, rfl⟩
  have HP := hid_ (show P ↔ fr = 0 ∧ tl.length ≤ pl.length ∧ tl.length ≤ sl.length ∧ tl.length = xl.length ∧ ∀ i, i < tl.length → pl.getD i 0 = tl.getD i 0 ∧ sl.getD i 0 = xl.getD i 0 from by rw [← hP]; exact Iff.rfl)
  rw [hP]
  clear hp hs ht hx ea eb asz p3 s3 t3 x3 hP
  go_enter Tryz.func37, Tryz.ntmps37
  go_upto_region 1 with fail
  try simp only [hB]
  clear hB
  generalize (w.alloc (.cells #[.slice pa pl.length pc, .slice sa sl.length sc, .int .i64 fr] 26)).alloc (.cells #[.slice ta tl.length tc, .slice xa xl.length xc] 49) = w1 at *
  have HALL := hid_ (fun w' (h : Ex w1 w') => (⟨h.cell a0, h.cell a1, h.cell a2, h.cell b0, h.cell b1⟩ : _ ∧ _ ∧ _ ∧ _ ∧ _))
  by_cases h1 : fr = 0
  rotate_left
  · have k1 : (fr != 0) = true := by simpa using h1
    have HN := hid_ (show ¬ P from fun h => h1 (HP.out.1 h).1)
    clear h1
    go_wp2_with fail
    go_ret
    exact ⟨bolR_no HN.out, HX.out⟩
  have k1 : (fr != 0) = false := by simpa using h1
  have H1 := hid_ h1
  clear h1
  by_cases h2 : pl.length < tl.length
  · have k2 : decide ((pl.length : Int) < (tl.length : Int)) = true := by simp; omega
    have j2 : (pl.length : Int) < (tl.length : Int) := by omega
    have HN := hid_ (show ¬ P from fun h => by have := (HP.out.1 h).2.1; omega)
    clear h2
    go_wp2_with fail
    go_ret
    exact ⟨bolR_no HN.out, HX.out⟩
  have k2 : decide ((pl.length : Int) < (tl.length : Int)) = false := by simp; omega
  have j2 : ¬ (pl.length : Int) < (tl.length : Int) := by omega
  have H2 := hid_ (show tl.length ≤ pl.length from by omega)
  clear h2
  by_cases h3 : sl.length < tl.length
  · have k3 : decide ((sl.length : Int) < (tl.length : Int)) = true := by simp; omega
    have j3 : (sl.length : Int) < (tl.length : Int) := by omega
    have HN := hid_ (show ¬ P from fun h => by have := (HP.out.1 h).2.2.1; omega)
    clear h3
    go_wp2_with fail
    go_ret
    exact ⟨bolR_no HN.out, HX.out⟩
  have k3 : decide ((sl.length : Int) < (tl.length : Int)) = false := by simp; omega
  have j3 : ¬ (sl.length : Int) < (tl.length : Int) := by omega
  have H3 := hid_ (show tl.length ≤ sl.length from by omega)
  clear h3
  by_cases h4 : tl.length = xl.length
  rotate_left
  · have k4 : ((tl.length : Int) != (xl.length : Int)) = true := by simp; omega
    have HN := hid_ (show ¬ P from fun h => h4 (HP.out.1 h).2.2.2.1)
    clear h4
    go_wp2_with fail
    go_ret
    exact ⟨bolR_no HN.out, HX.out⟩
  have k4 : ((tl.length : Int) != (xl.length : Int)) = false := by simp; omega
  have H4 := hid_ h4
  clear h4
  go_wp2_with fail
  clear a0 a1 a2 b0 b1
  go_loopw [5] (fun i' wr => ∃ (i n : Nat), i ≤ tl.length ∧ i' = .int .i64 i ∧ wr = w1.drewN n ∧ Hid (∀ j, j < i → pl.getD j 0 = tl.getD j 0 ∧ sl.getD j 0 = xl.getD j 0)) (fun i' _ => tl.length - (intOf i').toNat)
  case atStart => exact ⟨0, 0, by omega, rfl, rfl, hid_ (fun j hj => by omega)⟩
  case round =>
    obtain ⟨i, n, hi, rfl, rfl, hall⟩ := hrel
    obtain ⟨a0, a1, a2, b0, b1⟩ := HALL.out (w1.drewN n) ((Ex.refl w1).drewN n)
    by_cases hlt : i < tl.length
    · have hip : i < pl.length := by have := H2.out; omega
      have his : i < sl.length := by have := H3.out; omega
      have hix : i < xl.length := by have := H4.out; omega
      obtain ⟨pb, po, rfl, hpc⟩ := P3.out (by omega)
      obtain ⟨sb, so, rfl, hsc⟩ := S3.out (by omega)
      obtain ⟨tb, to_, rfl, htc⟩ := T3.out (by omega)
      obtain ⟨xb, xo, rfl, hxc⟩ := X3.out (by omega)
      have c1 := ((Ex.refl w1).drewN n).cell (hpc i _ (get_getD hip))
      have c2 := ((Ex.refl w1).drewN n).cell (hsc i _ (get_getD his))
      have c3 := ((Ex.refl w1).drewN n).cell (htc i _ (get_getD hlt))
      have c4 := ((Ex.refl w1).drewN n).cell (hxc i _ (get_getD hix))
      have i1 : (0 : Int) ≤ (i : Int) := by omega
      have i2 : (i : Int) < (tl.length : Int) := by omega
      have i3 : (i : Int) < (pl.length : Int) := by omega
      have i4 : (i : Int) < (sl.length : Int) := by omega
      have i5 : (i : Int) < (xl.length : Int) := by omega
      obtain ⟨W, hW⟩ : ∃ W, w1.drewN n = W := ⟨_, rfl⟩
      rw [hW] at c1 c2 c3 c4 a0 a1 a2 b0 b1 ⊢
      have HWE := hid_ (show Ex w1 W from by rw [← hW]; exact (Ex.refl w1).drewN n)
      have HWN := hid_ hW
      have HI := hid_ (show i < tl.length from hlt)
      clear hW hpc hsc htc hxc
      obtain ⟨y1, hy1⟩ : ∃ y, pl.getD i 0 = y := ⟨_, rfl⟩
      obtain ⟨y2, hy2⟩ : ∃ y, sl.getD i 0 = y := ⟨_, rfl⟩
      obtain ⟨y3, hy3⟩ : ∃ y, tl.getD i 0 = y := ⟨_, rfl⟩
      obtain ⟨y4, hy4⟩ : ∃ y, xl.getD i 0 = y := ⟨_, rfl⟩
      rw [hy1] at c1
      rw [hy2] at c2
      rw [hy3] at c3
      rw [hy4] at c4
      have HY := hid_ (show pl.getD i 0 = y1 ∧ sl.getD i 0 = y2 ∧ tl.getD i 0 = y3 ∧ xl.getD i 0 = y4 from ⟨hy1, hy2, hy3, hy4⟩)
      clear hy1 hy2 hy3 hy4
      by_cases e1 : y1 = y3
      rotate_left
      · have k5 : (y1 != y3) = true := by simpa using e1
        have HN := hid_ (show ¬ P from fun h => e1 (by have := ((HP.out.1 h).2.2.2.2 i HI.out).1; rw [HY.out.1, HY.out.2.2.1] at this; exact this))
        clear e1
        go_wp2_with fail
        go_quiet (fail)
        go_wp2_with fail
        go_ret
        exact ⟨bolR_no HN.out, HX.out.trans (HWE.out.drewN _)⟩
      have k5 : (y1 != y3) = false := by simpa using e1
      by_cases e2 : y2 = y4
      rotate_left
      · have k6 : (y2 != y4) = true := by simpa using e2
        have HN := hid_ (show ¬ P from fun h => e2 (by have := ((HP.out.1 h).2.2.2.2 i HI.out).2; rw [HY.out.2.1, HY.out.2.2.2] at this; exact this))
        clear e2
        go_wp2_with fail
        go_quiet (fail)
        go_wp2_with fail
        go_ret
        exact ⟨bolR_no HN.out, HX.out.trans (HWE.out.drewN _)⟩
      have k6 : (y2 != y4) = false := by simpa using e2
      have HA := hid_ (show ∀ j, j < i + 1 → pl.getD j 0 = tl.getD j 0 ∧ sl.getD j 0 = xl.getD j 0 from fun j hj => by
        by_cases e : j = i
        · rw [e, HY.out.1, HY.out.2.1, HY.out.2.2.1, HY.out.2.2.2]; exact ⟨e1, e2⟩
        · exact hall.out j (by omega))
      clear e1 e2
      go_wp2_with fail
      go_quiet (fail)
      go_wp2_with fail
      go_roundw
      case rel => exact ⟨i + 1, _, by omega, by go_num, by rw [← HWN.out, World.drewN_drewN], HA⟩
      case measure => simp [intOf]; omega
    · have HN := hid_ (show P from HP.out.2 ⟨H1.out, H2.out, H3.out, H4.out, fun j hj => hall.out j (by omega)⟩)
      obtain rfl : i = tl.length := by omega
      go_wp2_with fail
      go_ret
      exact ⟨bolR_yes HN.out, HX.out.trans ((Ex.refl w1).drewN _)⟩
end Go.Proofs.YtgdmlmhpineibaaGreat
