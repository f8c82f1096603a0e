/- Walk of codewrightref31.SameMap. -/
/- Walk of codewrightref04.Same. -/
/- Walks of the reference's Entries (any field), List, Weight and Word. -/
import Derived.BigQuiet
import Derived.Test.YtgdmlmhpineibaaGreatZa31
import Derived.Test.YtgdmlmhpineibaaGreatZa44
namespace Go.Proofs.YtgdmlmhpineibaaGreat
set_option linter.unusedVariables false
set_option linter.unusedSimpArgs false
open Go.RowKit

set_option maxRecDepth 100000 in
set_option maxHeartbeats 4000000 in
theorem SameMap_any (w : World) (pl sl ql tl : List Int) (pv sv qv tv : Value) (hp : ISl w pv pl) (hs : ISl w sv sl) (hq : ISl w qv ql) (ht : ISl w tv tl) (fr fs : Int) :
    Calls Tryz.prog 20 #[.agg #[pv, sv, .int .i64 fr], .agg #[qv, tv, .int .i64 fs]] w fun r w' => r = .returned (.bool (decide (fr = fs ∧ pl = ql ∧ sl = tl))) ∧ Ex w w' := by
  obtain ⟨a0, a1, a2, ea⟩ := boxMo_facts w pv sv fr
  obtain ⟨b0, b1, b2, eb⟩ := boxMo_facts (w.alloc (.cells #[pv, sv, .int .i64 fr] 26)) qv tv fs
  have asz : (w.alloc (.cells #[pv, sv, .int .i64 fr] 26)).heap.size = w.heap.size + 1 := by simp
  rw [asz] at b0 b1 b2
  replace a0 := eb.cell a0
  replace a1 := eb.cell a1
  replace a2 := eb.cell a2
  have HX := hid_ (ea.trans eb)
  have HP := hid_ hp
  have HS := hid_ hs
  have HQ := hid_ hq
  have HT := hid_ ht
  obtain ⟨pa, pc, rfl, -, q1, -⟩ := hp.open
  obtain ⟨sa, sc, rfl, -, q2, -⟩ := hs.open
  obtain ⟨qa, qc, rfl, -, q3, -⟩ := hq.open
  obtain ⟨ta, tc, rfl, -, q4, -⟩ := ht.open
  unfold maxLen at q1 q2 q3 q4
  obtain ⟨B, hB⟩ : ∃ B, w.heap.size = B := ⟨_, rfl⟩
  rw [hB] at a0 a1 a2 b0 b1 b2
  clear hp hs hq ht ea eb asz
  go_enter Tryz.func20, Tryz.ntmps20
  go_upto_region 1 with fail
  try simp only [hB]
  clear hB
  generalize (w.alloc (.cells #[.slice pa pl.length pc, .slice sa sl.length sc, .int .i64 fr] 26)).alloc (.cells #[.slice qa ql.length qc, .slice ta tl.length tc, .int .i64 fs] 26) = w1 at *
  have HALL := hid_ (fun w' (h : Ex w1 w') => (⟨h.cell a0, h.cell a1, h.cell b0, h.cell b1⟩ : _ ∧ _ ∧ _ ∧ _))
  have HPQ := hid_ (SameInts_any w1 pl ql _ _ (HP.out.ex HX.out) (HQ.out.ex HX.out))
  have HST := hid_ (fun (w2 : World) (h : Ex w1 w2) => SameInts_any w2 sl tl _ _ (HS.out.ex (HX.out.trans h)) (HT.out.ex (HX.out.trans h)))
  by_cases h1 : fr = fs
  · have k1 : (fr == fs) = true := by simpa using h1
    by_cases h2 : pl = ql
    · have HPQ2 := hid_ HPQ.out
      rw [show decide (pl = ql) = true from by simpa using h2] at HPQ2
      have H12 := hid_ (And.intro h1 h2)
      clear h1 h2 HPQ
      go_wp2_with fail
      refine HPQ2.out.mono ?_
      rintro e w2 ⟨rfl, n2, rfl⟩
      have HX2 := hid_ ((Ex.refl w1).drewN n2)
      clear a0 a1 b0 b1
      obtain ⟨a0, a1, b0, b1⟩ := HALL.out _ HX2.out
      have HST2 := hid_ (HST.out _ HX2.out)
      obtain ⟨D, hD⟩ : ∃ D, decide (sl = tl) = D := ⟨_, rfl⟩
      rw [hD] at HST2
      have HD := hid_ hD
      clear hD
      go_wp2_with fail
      refine HST2.out.mono ?_
      rintro e w3 ⟨rfl, n3, rfl⟩
      have HX3 := hid_ ((Ex.refl w1).drewN (n2 + n3))
      go_wp2_with fail
      go_ret
      refine ⟨?_, HX.out.trans HX3.out⟩
      have := HD.out
      have := H12.out.1
      have := H12.out.2
      simp_all
    · have HPQ2 := hid_ HPQ.out
      rw [show decide (pl = ql) = false from by simpa using h2] at HPQ2
      have H2 := hid_ h2
      clear h2 HPQ
      go_wp2_with fail
      refine HPQ2.out.mono ?_
      rintro e w2 ⟨rfl, n2, rfl⟩
      have HX2 := hid_ ((Ex.refl w1).drewN n2)
      go_wp2_with fail
      go_ret
      refine ⟨?_, HX.out.trans HX2.out⟩
      have := H2.out
      simp_all
  · have k1 : (fr == fs) = false := by simpa using h1
    have H1 := hid_ h1
    clear h1
    go_wp2_with fail
    go_ret
    refine ⟨?_, HX.out⟩
    have := H1.out
    simp_all
end Go.Proofs.YtgdmlmhpineibaaGreat
namespace Go.Proofs.YtgdmlmhpineibaaGreat
set_option linter.unusedVariables false
set_option linter.unusedSimpArgs false
open Go.RowKit

set_option maxRecDepth 100000 in
set_option maxHeartbeats 4000000 in
theorem rFSame_any (w : World) (p m : Int) (ml : List Int) (mv : Value) (hmv : ISl w mv ml) (p' m' : Int) (ml' : List Int) (mv' : Value) (hmv' : ISl w mv' ml') :
    Calls Tryz.prog 76 #[.agg #[.int .i64 p, .int .i64 m, mv], .agg #[.int .i64 p', .int .i64 m', mv']] w fun r w' => r = .returned (.bool (samF p m ml p' m' ml')) ∧ Ex w w' := by
  obtain ⟨a0, a1, a2, ea, -⟩ := box_facts w p m mv
  obtain ⟨b0, b1, b2, eb, -⟩ := box_facts (w.alloc (.cells #[.int .i64 p, .int .i64 m, mv] 24)) p' m' mv'
  replace a0 := eb.cell a0
  replace a1 := eb.cell a1
  replace a2 := eb.cell a2
  have hsz : (w.alloc (.cells #[.int .i64 p, .int .i64 m, mv] 24)).heap.size = w.heap.size + 1 := by simp
  rw [hsz] at b0 b1 b2
  have HE := hid_ (ea.trans eb)
  obtain ⟨ma, mc, rfl, m1', m2, m3⟩ := hmv.open
  obtain ⟨na, nc, rfl, -, n2, n3⟩ := hmv'.open
  unfold maxLen at m2 n2
  obtain ⟨R, hR⟩ : ∃ R, samF p m ml p' m' ml' = R := ⟨_, rfl⟩
  rw [hR]
  have M3 := hid_ m3
  have N3 := hid_ n3
  have HR := hid_ hR
  clear hmv hmv' hsz ea eb m3 n3 hR
  go_enter Tryz.func76, Tryz.ntmps76
  by_cases h1 : p = p'
  · have b1' : (p != p') = false := by simpa using h1
    by_cases h2 : m = m'
    · have b2' : (m != m') = false := by simpa using h2
      by_cases h3 : ml.length = ml'.length
      · have b3 : ((ml.length : Int) != (ml'.length : Int)) = false := by simp; omega
        subst h1
        subst h2
        have hn : ∃ n, ml.length = n := ⟨_, rfl⟩
        have HRB := hid_ (show R = true ↔ ml = ml' from by rw [← HR.out, samF_iff]; simp)
        have H3 := hid_ h3
        rw [← h3] at a0 a1 a2 b0 b1 b2 HE ⊢
        clear h3 b3 hn
        go_wp2_with fail
        generalize (w.alloc (.cells #[.int .i64 p, .int .i64 m, .slice ma ml.length mc] 24)).alloc (.cells #[.int .i64 p, .int .i64 m, .slice na ml.length nc] 24) = w1 at *
        have A2 := hid_ a2
        have B2 := hid_ b2
        go_loopw [5] (fun i' wr => ∃ (i : Nat), i ≤ ml.length ∧ i' = .int .i64 i ∧ (∀ j, j < i → ml.getD j 0 = ml'.getD j 0) ∧ Hid (Ex w1 wr)) (fun i' _ => ml.length - (intOf i').toNat)
        case atStart => exact ⟨0, by omega, rfl, fun j hj => by omega, hid_ (Ex.refl _)⟩
        case round =>
          obtain ⟨i, hi, rfl, hall, hex⟩ := hrel
          have HAL := hid_ hall
          clear hall a0 a1 b0 b1
          by_cases hin : i < ml.length
          · obtain ⟨mb, mo, rfl, hmc⟩ := M3.out (by omega)
            obtain ⟨nb, no, rfl, hnc⟩ := N3.out (by have := H3.out; omega)
            have c1 := hex.out.cell (HE.out.cell (hmc i _ (show ml[i]? = some (ml.getD i 0) from by rw [List.getD_eq_getElem?_getD, List.getElem?_eq_getElem hin]; rfl)))
            have c2 := hex.out.cell (HE.out.cell (hnc i _ (show ml'[i]? = some (ml'.getD i 0) from by rw [List.getD_eq_getElem?_getD, List.getElem?_eq_getElem (by have := H3.out; omega)]; rfl)))
            have f2 := hex.out.cell A2.out
            have g2 := hex.out.cell B2.out
            have j1 : (0 : Int) ≤ (i : Int) := by omega
            have j2 : (i : Int) < (ml.length : Int) := by omega
            have hmm : m2 = m2 := rfl
            obtain ⟨x, hx⟩ : ∃ x, ml.getD i 0 = x := ⟨_, rfl⟩
            obtain ⟨y, hy⟩ : ∃ y, ml'.getD i 0 = y := ⟨_, rfl⟩
            rw [hx] at c1
            rw [hy] at c2
            have HXY := hid_ (show x = ml.getD i 0 ∧ y = ml'.getD i 0 from ⟨hx.symm, hy.symm⟩)
            clear hx hy hmc hnc a2 b2 hmm
            by_cases hxy : x = y
            · have HA2 := hid_ (show ∀ j, j < i + 1 → ml.getD j 0 = ml'.getD j 0 from fun j hj => by
                by_cases e : j = i
                · subst e; rw [← HXY.out.1, ← HXY.out.2, hxy]
                · exact HAL.out j (by omega))
              have bb : (x != y) = false := by simp [hxy]
              have hyx : y = x := hxy.symm
              subst hyx
              clear hxy
              go_upto_region 6 with fail
              go_quiet (fail)
              go_wp2_with fail
              go_roundw
              case rel => exact ⟨i + 1, by omega, by go_num, HA2.out, hid_ (hex.out.drewN _)⟩
              case measure => simp [intOf]; omega
            · have bb : (x != y) = true := by simpa using hxy
              have hr : R = false := Bool.eq_false_iff.2 fun h => hxy (by rw [HXY.out.1, HXY.out.2, HRB.out.1 h])
              subst hr
              have hyx : ¬ y = x := fun h => hxy h.symm
              go_upto_region 6 with fail
              go_quiet (fail)
              go_wp2_with fail
              go_ret
              exact ⟨rfl, HE.out.trans (hex.out.drewN _)⟩
          · obtain rfl : i = ml.length := by omega
            have f2 := hex.out.cell A2.out
            have hr : R = true := HRB.out.2 (List.ext_getElem? fun j => by
              by_cases hj : j < ml.length
              · have := HAL.out j hj
                rw [List.getElem?_eq_getElem hj, List.getElem?_eq_getElem (by have := H3.out; omega)]
                rw [List.getD_eq_getElem?_getD, List.getElem?_eq_getElem hj, List.getD_eq_getElem?_getD, List.getElem?_eq_getElem (by have := H3.out; omega)] at this
                simpa using this
              · rw [List.getElem?_eq_none (by omega), List.getElem?_eq_none (by have := H3.out; omega)])
            subst hr
            go_wp2_with fail
            go_ret
            exact ⟨rfl, HE.out.trans hex.out⟩
      · have b3 : ((ml.length : Int) != (ml'.length : Int)) = true := by simp; omega
        have hr : R = false := by
          rw [← HR.out]
          exact Bool.eq_false_iff.2 fun h => h3 (by rw [(samF_iff.1 h).2.2])
        subst hr
        have h3' : ¬ ((ml.length : Int) = (ml'.length : Int)) := by omega
        clear h3 h1 h2
        go_wp2_with fail
        go_ret
        exact ⟨rfl, HE.out⟩
    · have b2' : (m != m') = true := by simpa using h2
      have hr : R = false := by
        rw [← HR.out]
        exact Bool.eq_false_iff.2 fun h => h2 (samF_iff.1 h).2.1
      subst hr
      clear h1 h2
      go_wp2_with fail
      go_ret
      exact ⟨rfl, HE.out⟩
  · have b1' : (p != p') = true := by simpa using h1
    have hr : R = false := by
      rw [← HR.out]
      exact Bool.eq_false_iff.2 fun h => h1 (samF_iff.1 h).1
    subst hr
    clear h1
    go_wp2_with fail
    go_ret
    exact ⟨rfl, HE.out⟩
end Go.Proofs.YtgdmlmhpineibaaGreat
namespace Go.Proofs.YtgdmlmhpineibaaGreat
set_option linter.unusedVariables false
set_option linter.unusedSimpArgs false
open Go.RowKit

def entG (p m : Int) (l : List Int) : Int := if (l.all fun x => isI p m x) = true then 0 else 2
theorem entG_entS {p m : Nat} {ml : List Int} (hf : FSh p m ml) (l : List Int) : entG p m l = entS (p ^ m) l := by
  unfold entG entS
  congr 1
  rw [show (fun x => isI (p : Int) (m : Int) x) = fun x => isB (p ^ m) x from funext fun x => isI_isB hf x]
section
variable {p m : Int} {mv : Value}
set_option maxRecDepth 100000 in
set_option maxHeartbeats 1000000 in
theorem rEntG_any (w : World) (l : List Int) (v : Value) (hl : ISl w v l) :
    Calls Tryz.prog 61 #[.agg #[.int .i64 p, .int .i64 m, mv], v] w fun r w' => r = .returned (.int .i64 (entG p m l)) ∧ Ex w w' := by
  obtain ⟨d0, d1, d2, e0, _⟩ := box_facts w p m mv
  obtain ⟨a, cap, rfl, s1, s2, s3⟩ := (hl.ex e0).open
  have S3 := hid_ s3
  have HIS := hid_ (fun w' x => rIs_any p m x mv w')
  have HE := hid_ (show entG p m l = if (l.all fun x => isI p m x) = true then 0 else 2 from rfl)
  unfold maxLen at s2
  clear hl s3
  go_enter Tryz.func61, Tryz.ntmps61
  go_wp2_with fail
  obtain ⟨xb, hxb⟩ : ∃ xb, w.heap.size = xb := ⟨_, rfl⟩
  rw [hxb] at d0 d1 d2
  try simp only [hxb]
  generalize w.alloc (.cells #[.int .i64 p, .int .i64 m, mv] 24) = w1 at *
  clear hxb
  go_loopw [5] (fun i' wr => ∃ i : Nat, i ≤ l.length ∧ i' = .int .i64 i ∧ Hid (∀ (j : Nat) (x : Int), j < i → l[j]? = some x → isI p m x = true) ∧ Ex w1 wr) (fun i' _ => l.length - (intOf i').toNat)
  case atStart => exact ⟨0, by omega, rfl, hid_ (fun j x h => by omega), Ex.refl _⟩
  case round =>
    obtain ⟨i, hi, rfl, hall, hx⟩ := hrel
    by_cases hlt : i < l.length
    · obtain ⟨x, hxx⟩ : ∃ x, l[i]? = some x := ⟨_, List.getElem?_eq_getElem hlt⟩
      obtain ⟨bb, o, rfl, hc⟩ := S3.out (by omega)
      have c1 := hx.cell (hc i x hxx)
      have r0 := hx.cell d0
      have r1 := hx.cell d1
      have r2 := hx.cell d2
      have HI2 := hid_ (fun w' => HIS.out w' x)
      have HXX := hid_ hxx
      obtain ⟨bo, hbo⟩ : ∃ bo, isI p m x = bo := ⟨_, rfl⟩
      rw [hbo] at HI2
      have HBO := hid_ hbo
      clear hc hxx hbo
      go_wp2_with fail
      go_region_held3 (fun w' => w'.cell? ⟨xb, 0, none⟩ = some (.int .i64 p) ∧ w'.cell? ⟨xb, 1, none⟩ = some (.int .i64 m) ∧ w'.cell? ⟨xb, 2, none⟩ = some mv ∧ w'.cell? ⟨bb, o + i, none⟩ = some (.int .i64 x) ∧ Ex w1 w')
        (first | exact ⟨r0, r1, r2, c1, hx.drew⟩ | exact ⟨hx1.cell r0, hx1.cell r1, hx1.cell r2, hx1.cell c1, hx.drew.trans hx1⟩)
        ((go_at_call 100; refine (HI2.out _).mono ?_; rintro e w2 ⟨rfl, hx1⟩))
      have hE := (‹_ ∧ _ ∧ _ ∧ _ ∧ Ex w1 _›).2.2.2.2
      cases bo with
      | true =>
        have HA := hid_ (show ∀ (j : Nat) (y : Int), j < i + 1 → l[j]? = some y → isI p m y = true from fun j y hj hy => by
          by_cases e : j = i
          · subst e; rw [HXX.out] at hy; injection hy with hy; subst hy; exact HBO.out
          · exact hall.out j y (by omega) hy)
        go_wp2_with fail
        go_roundw
        case rel => exact ⟨i + 1, by omega, by go_num, HA, hE⟩
        case measure => simp [intOf]; omega
      | false =>
        have HF := hid_ (show entG p m l = 2 by
          rw [HE.out, if_neg]
          intro h
          have := List.all_eq_true.1 h x (List.mem_of_getElem? HXX.out)
          rw [HBO.out] at this; cases this)
        go_wp2_with fail
        go_ret
        exact ⟨ret_int HF.out.symm, e0.trans hE⟩
    · obtain rfl : i = l.length := by omega
      have HF := hid_ (show entG p m l = 0 by
        rw [HE.out, if_pos]
        rw [List.all_eq_true]
        intro y hy
        obtain ⟨j, hj, e⟩ := List.getElem_of_mem hy
        exact hall.out j y hj (by rw [List.getElem?_eq_getElem hj, e]))
      go_wp2_with fail
      go_ret
      exact ⟨ret_int HF.out.symm, e0.trans hx⟩
end
def lisG (p m : Int) (l : List Int) (n : Int) : Int := if (l.length : Int) ≠ n then 4 else entG p m l
set_option maxRecDepth 100000 in
set_option maxHeartbeats 4000000 in
theorem rListG_any {p m : Int} {mv : Value} (w : World) (l : List Int) (v : Value) (hl : ISl w v l) (n : Int) :
    Calls Tryz.prog 25 #[.agg #[.int .i64 p, .int .i64 m, mv], v, .int .i64 n] w fun r w' => r = .returned (.int .i64 (lisG p m l n)) ∧ Ex w w' := by
  obtain ⟨a, cap, rfl, s1, s2, s3⟩ := hl.open
  unfold maxLen at s2
  obtain ⟨g0, g1, g2, e0, gsz⟩ := box_facts w p m mv
  have HE := hid_ (fun w' (h : Ex w w') => rEntG_any (p := p) (m := m) (mv := mv) w' l _ (hl.ex h))
  obtain ⟨R, hR⟩ : ∃ R, lisG p m l n = R := ⟨_, rfl⟩
  have HR := hid_ (show R = if (l.length : Int) ≠ n then 4 else entG p m l from hR.symm)
  rw [hR]
  clear s3 hl hR
  go_enter Tryz.func25, Tryz.ntmps25
  by_cases hn : (l.length : Int) = n
  · have hb : ((l.length : Int) != n) = false := by simp [hn]
    have HN := hid_ (show R = entG p m l from by rw [HR.out, if_neg (by simpa using hn)])
    clear hn
    go_wp2_with fail
    refine (HE.out _ e0).mono ?_
    rintro e w1 ⟨rfl, hx1⟩
    go_wp2_with fail
    go_ret
    exact ⟨ret_int HN.out.symm, e0.trans hx1⟩
  · have hb : ((l.length : Int) != n) = true := by simpa using hn
    have HN := hid_ (show R = 4 from by rw [HR.out, if_pos (by simpa using hn)])
    go_wp2_with fail
    go_ret
    exact ⟨ret_int HN.out.symm, e0⟩
def wgtK (l : List Int) : Nat → Nat
  | 0 => 0
  | k + 1 => wgtK l k + if l.getD k 0 ≠ 0 then 1 else 0
set_option maxRecDepth 100000 in
set_option maxHeartbeats 4000000 in
theorem rWeight_any (w : World) (l : List Int) (v : Value) (hl : ISl w v l) :
    Calls Tryz.prog 26 #[v] w fun r w' => r = .returned (.int .i64 (wgtK l l.length : Nat)) ∧ w = w' := by
  obtain ⟨a, cap, rfl, s1, s2, s3⟩ := hl.open
  unfold maxLen at s2
  have S3 := hid_ s3
  clear hl s3
  go_enter Tryz.func26, Tryz.ntmps26
  go_wp2_with fail
  go_loop [3, 4] (fun n' i' => ∃ (i n : Nat), i ≤ l.length ∧ n ≤ i ∧ i' = .int .i64 i ∧ n' = .int .i64 n ∧ Hid (n = wgtK l i)) (fun _ i' => l.length - (intOf i').toNat)
  case atStart => exact ⟨0, 0, by omega, by omega, rfl, rfl, hid_ rfl⟩
  case round =>
    obtain ⟨i, n, hi, hni, rfl, rfl, hn⟩ := hrel
    by_cases hlt : i < l.length
    · obtain ⟨bb, o, rfl, hc⟩ := S3.out (by omega)
      have c1 := hc i _ (get_getD hlt)
      obtain ⟨x, hx⟩ : ∃ x, l.getD i 0 = x := ⟨_, rfl⟩
      rw [hx] at c1
      have HX := hid_ hx
      have i1 : (0 : Int) ≤ (i : Int) := by omega
      have i2 : (i : Int) < (l.length : Int) := by omega
      clear hc hx
      by_cases h0 : x = 0
      · subst h0
        have HA := hid_ (show n = wgtK l (i + 1) from by
          show n = wgtK l i + if l.getD i 0 ≠ 0 then 1 else 0
          rw [HX.out, if_neg (by simp), ← hn.out]; rfl)
        go_wp2_with fail
        go_round
        case rel => exact ⟨i + 1, n, by omega, by omega, by go_num, rfl, HA⟩
        case measure => simp [intOf]; omega
      · have kb : (x != 0) = true := by simpa using h0
        have HA := hid_ (show n + 1 = wgtK l (i + 1) from by
          show n + 1 = wgtK l i + if l.getD i 0 ≠ 0 then 1 else 0
          rw [HX.out, if_pos h0, ← hn.out])
        clear h0
        go_wp2_with fail
        go_round
        case rel => exact ⟨i + 1, n + 1, by omega, by omega, by go_num, by go_num, HA⟩
        case measure => simp [intOf]; omega
    · obtain rfl : i = l.length := by omega
      go_wp2_with fail
      go_ret
      exact ⟨by rw [hn.out]; rfl, rfl⟩
theorem ent_at {q : Nat} {l : List Int} (h : (l.any fun y => !isB q y) = false) {i : Nat} (hi : i < l.length) : ∃ z : Nat, l.getD i 0 = z ∧ z < q := by
  have hm : l.getD i 0 ∈ l := by rw [List.getD_eq_getElem?_getD, List.getElem?_eq_getElem hi]; exact List.getElem_mem _
  have := List.any_eq_false.1 h _ hm
  generalize l.getD i 0 = z at *
  unfold isB at this
  simp at this
  exact ⟨z.toNat, by omega, by omega⟩
theorem ent_any {q : Nat} {l : List Int} : entS q l = if (l.any fun y => !isB q y) = true then 2 else 0 := by
  unfold entS
  have e : (l.any fun x => !isB q x) = !(l.all fun x => isB q x) := by rw [List.not_all_eq_any_not]
  rw [e]
  cases (l.all fun x => isB q x) <;> simp
set_option maxRecDepth 100000 in
set_option maxHeartbeats 4000000 in
theorem rWord_any (w : World) (p m : Int) (ml : List Int) (mv : Value) (hmv : ISl w mv ml) (pl sl : List Int) (pv sv : Value) (hp : ISl w pv pl) (hs : ISl w sv sl) (fr : Int) (x : List Int) (xv : Value) (hx : ISl w xv x) :
    Calls Tryz.prog 16 #[.agg #[.int .i64 p, .int .i64 m, mv], .agg #[pv, sv, .int .i64 fr], xv] w fun r w' => WrdR (wrdL p m ml pl sl fr x) (wrdE p m ml pl sl fr x) r w' ∧ Ex w w' := by
  obtain ⟨a0, a1, a2, ea⟩ := boxF_facts w p m mv
  obtain ⟨b0, b1, b2, eb⟩ := boxMo_facts (w.alloc (.cells #[.int .i64 p, .int .i64 m, mv] 24)) pv sv fr
  have asz : (w.alloc (.cells #[.int .i64 p, .int .i64 m, mv] 24)).heap.size = w.heap.size + 1 := by simp
  rw [asz] at b0 b1 b2
  replace a0 := eb.cell a0
  replace a1 := eb.cell a1
  replace a2 := eb.cell a2
  have HX := hid_ (ea.trans eb)
  have HP := hid_ hp
  have HS := hid_ hs
  have HM := hid_ hmv
  have HXV := hid_ hx
  obtain ⟨ma, mc, rfl, -, -, -⟩ := hmv.open
  obtain ⟨pa, pc, rfl, q1, q2, -⟩ := hp.open
  obtain ⟨sa, sc, rfl, t1, t2, -⟩ := hs.open
  obtain ⟨xa, xc, rfl, u1, u2, -⟩ := hx.open
  unfold maxLen at q2 t2 u2
  have HC := hid_ (fun (w' : World) (h : Ex w w') => rMCheck_any w' p m ml _ (hmv.ex h) pl.length pl sl _ _ (hp.ex h) (hs.ex h) fr)
  have HL := hid_ (fun (w' : World) (h : Ex w w') => rListG_any (p := p) (m := m) (mv := .slice ma ml.length mc) w' x _ (hx.ex h) pl.length)
  obtain ⟨E, hE⟩ : ∃ E, monS p m ml pl.length pl sl fr = E := ⟨_, rfl⟩
  have HE := hid_ hE
  rw [hE] at HC
  obtain ⟨B, hB⟩ : ∃ B, w.heap.size = B := ⟨_, rfl⟩
  rw [hB] at a0 a1 a2 b0 b1 b2
  clear hmv hp hs hx ea eb asz hE
  go_enter Tryz.func16, Tryz.ntmps16
  go_upto_region 1 with fail
  try simp only [hB]
  clear hB
  generalize (w.alloc (.cells #[.int .i64 p, .int .i64 m, .slice ma ml.length mc] 24)).alloc (.cells #[.slice pa pl.length pc, .slice sa sl.length sc, .int .i64 fr] 26) = w1 at *
  have HALL := hid_ (fun w' (h : Ex w1 w') => (⟨h.cell a0, h.cell a1, h.cell a2, h.cell b0, h.cell b1, h.cell b2⟩ : _ ∧ _ ∧ _ ∧ _ ∧ _ ∧ _))
  go_wp2_with fail
  refine (HC.out w1 HX.out).mono ?_
  rintro e w2 ⟨rfl, hx2⟩
  have HX2 := hid_ hx2
  clear a0 a1 a2 b0 b1 b2 hx2
  obtain ⟨a0, a1, a2, b0, b1, b2⟩ := HALL.out w2 HX2.out
  by_cases h0 : E = 0
  · subst h0
    obtain ⟨n0, n1, n2, n3, n4, n5, n6, n7, _, _⟩ := mon_ok HE.out
    obtain ⟨pn, mn, rfl, rfl, hf, hpr, hF⟩ := (chk_iff _ _ _).1 n0
    obtain ⟨fn, rfl⟩ : ∃ fn : Nat, fr = fn := ⟨fr.toNat, by omega⟩
    have HLS := hid_ (show lisG pn mn x pl.length = if x.length ≠ pl.length then 4 else if (x.any fun y => !isB (pn ^ mn) y) = true then 2 else 0 from by
      unfold lisG
      rw [entG_entS hf, ent_any]
      by_cases h : x.length = pl.length
      · rw [h]; simp
      · have h2 : ¬ ((x.length : Int) = (pl.length : Int)) := by omega
        rw [if_pos h2, if_pos h])
    obtain ⟨G, hG⟩ : ∃ G, lisG pn mn x pl.length = G := ⟨_, rfl⟩
    have HWE := hid_ (show wrdE pn mn ml pl sl fn x = G from by
      unfold wrdE
      rw [HE.out, if_neg (by decide), ← hG, HLS.out]; rfl)
    rw [hG] at HL HLS
    have HF := hid_ (And.intro hf hF)
    have HSL := hid_ (show sl.length = pl.length ∧ pl.length ≤ 64 ∧ rngB pl pl.length = true from ⟨by omega, by omega, n5⟩)
    have hfm : fn < mn := by omega
    clear n0 n1 n2 n3 n4 n5 n6 n7 hf hF hpr hG
    go_wp2_with fail
    refine (HL.out w2 (HX.out.trans HX2.out)).mono ?_
    rintro e w3 ⟨rfl, hx3⟩
    have HX3 := hid_ (HX2.out.trans hx3)
    clear a0 a1 a2 b0 b1 b2 hx3
    obtain ⟨a0, a1, a2, b0, b1, b2⟩ := HALL.out w3 HX3.out
    by_cases hg : G = 0
    · subst hg
      have hxl : x.length = pl.length := by
        have h := HLS.out
        by_cases e : x.length = pl.length
        · exact e
        · rw [if_pos e] at h; cases h
      have hxb : (x.any fun y => !isB (pn ^ mn) y) = false := by
        have h := HLS.out
        rw [if_neg (by omega)] at h
        split at h
        · cases h
        · rename_i h2; simpa using h2
      have HIM := hid_ (rImage_any (mv := .slice ma ml.length mc) w3 HF.out.1 HF.out.2 (HM.out.ex (HX.out.trans HX3.out)) pl.length HSL.out.2.1 pl sl x _ _ _ (HP.out.ex (HX.out.trans HX3.out)) (HS.out.ex (HX.out.trans HX3.out)) (HXV.out.ex (HX.out.trans HX3.out)) fn hfm rfl HSL.out.1 hxl HSL.out.2.2 (fun i hi => ent_at hxb (by omega)))
      have HWL := hid_ (show wrdL pn mn ml pl sl fn x = il pl.length (imgF pn mn ml pl sl fn x pl.length) from by
        unfold wrdL
        rw [HWE.out, if_neg (by decide), hxl]; rfl)
      clear hxl hxb
      go_wp2_with fail
      refine HIM.out.mono ?_
      rintro e w4 ⟨g, rfl, ho, hx4⟩
      have HO := hid_ ho.isl
      have HX4 := hid_ (HX3.out.trans hx4)
      clear a0 a1 a2 b0 b1 b2 hx4 ho
      go_wp2_with fail
      go_ret2
      exact ⟨⟨_, by rw [HWE.out]; rfl, by rw [HWL.out]; exact HO.out⟩, HX.out.trans HX4.out⟩
    · have kb : (G != 0) = true := by simpa using hg
      have HG := hid_ hg
      have HWL := hid_ (show wrdL pn mn ml pl sl fn x = [] from by
        unfold wrdL
        rw [HWE.out, if_pos hg])
      clear hg
      go_wp2_with fail
      go_ret2
      exact ⟨⟨_, by rw [HWE.out]; rfl, by rw [HWL.out]; exact isl_nil _⟩, HX.out.trans HX3.out⟩
  · have kb : (E == 0) = false := by simpa using h0
    have kc : (E != 0) = true := by simpa using h0
    have HWE := hid_ (show wrdE p m ml pl sl fr x = E from by
      unfold wrdE
      rw [HE.out, if_pos h0])
    have HWL := hid_ (show wrdL p m ml pl sl fr x = [] from by
      unfold wrdL
      rw [HWE.out, if_pos h0])
    clear h0
    go_wp2_with fail
    go_ret2
    exact ⟨⟨_, by rw [HWE.out]; rfl, by rw [HWL.out]; exact isl_nil _⟩, HX.out.trans HX2.out⟩
end Go.Proofs.YtgdmlmhpineibaaGreat
