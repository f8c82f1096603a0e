/- Walk of codewrightref31.SameMap. -/
/- Walk of codewrightref31.Check. -/
/- The walk of codewrightref09.Few, with its value. -/
import Derived.Deep.CutRange
import Derived.Test.YtgdmlmhpineibaaGreatZc26
import Derived.Test.YtgdmlmhpineibaaGreatZc28
import Derived.Test.YtgdmlmhpineibaaGreatZc42
import Derived.Test.YtgdmlmhpineibaaGreatZc43
namespace Go.Proofs.YtgdmlmhpineibaaGreat
set_option linter.unusedVariables false
set_option linter.unusedSimpArgs false
open Go.RowKit

set_option maxRecDepth 100000 in
set_option maxHeartbeats 4000000 in
theorem SameMap_any (w : World) (pl sl ql tl : List Int) (pv sv qv tv : Value) (hp : ISl w pv pl) (hs : ISl w sv sl) (hq : ISl w qv ql) (ht : ISl w tv tl) (fr fs : Int) :
    Calls Tryz.prog 20 #[.agg #[pv, sv, .int .i64 fr], .agg #[qv, tv, .int .i64 fs]] w fun r w' => r = .returned (.bool (decide (fr = fs ∧ pl = ql ∧ sl = tl))) ∧ Ex w w' := by
  obtain ⟨a0, a1, a2, ea⟩ := boxMo_facts w pv sv fr
  obtain ⟨b0, b1, b2, eb⟩ := boxMo_facts (w.alloc (.cells #[pv, sv, .int .i64 fr] 26)) qv tv fs
  have asz : (w.alloc (.cells #[pv, sv, .int .i64 fr] 26)).heap.size = w.heap.size + 1 := by simp
  rw [asz] at b0 b1 b2
  replace a0 := eb.cell a0
  replace a1 := eb.cell a1
  replace a2 := eb.cell a2
  have HX := hid_ (ea.trans eb)
  have HP := hid_ hp
  have HS := hid_ hs
  have HQ := hid_ hq
  have HT := hid_ ht
  obtain ⟨pa, pc, rfl, -, q1, -⟩ := hp.open
  obtain ⟨sa, sc, rfl, -, q2, -⟩ := hs.open
  obtain ⟨qa, qc, rfl, -, q3, -⟩ := hq.open
  obtain ⟨ta, tc, rfl, -, q4, -⟩ := ht.open
  unfold maxLen at q1 q2 q3 q4
  obtain ⟨B, hB⟩ : ∃ B, w.heap.size = B := ⟨_, rfl⟩
  rw [hB] at a0 a1 a2 b0 b1 b2
  clear hp hs hq ht ea eb asz
  go_enter Tryz.func20, Tryz.ntmps20
  go_upto_region 1 with fail
  try simp only [hB]
  clear hB
  generalize (w.alloc (.cells #[.slice pa pl.length pc, .slice sa sl.length sc, .int .i64 fr] 26)).alloc (.cells #[.slice qa ql.length qc, .slice ta tl.length tc, .int .i64 fs] 26) = w1 at *
  have HALL := hid_ (fun w' (h : Ex w1 w') => (⟨h.cell a0, h.cell a1, h.cell b0, h.cell b1⟩ : _ ∧ _ ∧ _ ∧ _))
  have HPQ := hid_ (SameInts_any w1 pl ql _ _ (HP.out.ex HX.out) (HQ.out.ex HX.out))
  have HST := hid_ (fun (w2 : World) (h : Ex w1 w2) => SameInts_any w2 sl tl _ _ (HS.out.ex (HX.out.trans h)) (HT.out.ex (HX.out.trans h)))
  by_cases h1 : fr = fs
  · have k1 : (fr == fs) = true := by simpa using h1
    by_cases h2 : pl = ql
    · have HPQ2 := hid_ HPQ.out
      rw [show decide (pl = ql) = true from by simpa using h2] at HPQ2
      have H12 := hid_ (And.intro h1 h2)
      clear h1 h2 HPQ
      go_wp2_with fail
      refine HPQ2.out.mono ?_
      rintro e w2 ⟨rfl, n2, rfl⟩
      have HX2 := hid_ ((Ex.refl w1).drewN n2)
      clear a0 a1 b0 b1
      obtain ⟨a0, a1, b0, b1⟩ := HALL.out _ HX2.out
      have HST2 := hid_ (HST.out _ HX2.out)
      obtain ⟨D, hD⟩ : ∃ D, decide (sl = tl) = D := ⟨_, rfl⟩
      rw [hD] at HST2
      have HD := hid_ hD
      clear hD
      go_wp2_with fail
      refine HST2.out.mono ?_
      rintro e w3 ⟨rfl, n3, rfl⟩
      have HX3 := hid_ ((Ex.refl w1).drewN (n2 + n3))
      go_wp2_with fail
      go_ret
      refine ⟨?_, HX.out.trans HX3.out⟩
      have := HD.out
      have := H12.out.1
      have := H12.out.2
      simp_all
    · have HPQ2 := hid_ HPQ.out
      rw [show decide (pl = ql) = false from by simpa using h2] at HPQ2
      have H2 := hid_ h2
      clear h2 HPQ
      go_wp2_with fail
      refine HPQ2.out.mono ?_
      rintro e w2 ⟨rfl, n2, rfl⟩
      have HX2 := hid_ ((Ex.refl w1).drewN n2)
      go_wp2_with fail
      go_ret
      refine ⟨?_, HX.out.trans HX2.out⟩
      have := H2.out
      simp_all
  · have k1 : (fr == fs) = false := by simpa using h1
    have H1 := hid_ h1
    clear h1
    go_wp2_with fail
    go_ret
    refine ⟨?_, HX.out⟩
    have := H1.out
    simp_all
end Go.Proofs.YtgdmlmhpineibaaGreat
namespace Go.Proofs.YtgdmlmhpineibaaGreat
set_option linter.unusedVariables false
set_option linter.unusedSimpArgs false
open Go.RowKit

theorem chkS_01 (p m : Int) (ml : List Int) : chkS p m ml = 0 ∨ chkS p m ml = 1 := by
  unfold chkS; split
  · exact .inl rfl
  · exact .inr rfl
set_option maxRecDepth 100000 in
set_option maxHeartbeats 4000000 in
theorem rMCheck_any (w : World) (p m : Int) (ml : List Int) (mv : Value) (hmv : ISl w mv ml) (n : Int) (pl sl : List Int) (pv sv : Value) (hp : ISl w pv pl) (hs : ISl w sv sl) (fr : Int) :
    Calls Tryz.prog 22 #[.agg #[.int .i64 p, .int .i64 m, mv], .int .i64 n, .agg #[pv, sv, .int .i64 fr]] w fun r w' => r = .returned (.int .i64 (monS p m ml n pl sl fr)) ∧ Ex w w' := by
  obtain ⟨a0, a1, a2, ea⟩ := boxF_facts w p m mv
  obtain ⟨b0, b1, b2, eb⟩ := boxMo_facts (w.alloc (.cells #[.int .i64 p, .int .i64 m, mv] 24)) pv sv fr
  have asz : (w.alloc (.cells #[.int .i64 p, .int .i64 m, mv] 24)).heap.size = w.heap.size + 1 := by simp
  rw [asz] at b0 b1 b2
  replace a0 := eb.cell a0
  replace a1 := eb.cell a1
  replace a2 := eb.cell a2
  have HX := hid_ (ea.trans eb)
  have HM := hid_ hmv
  have HP := hid_ hp
  have HS := hid_ hs
  obtain ⟨ma, mc, rfl, -, -, -⟩ := hmv.open
  obtain ⟨pa, pc, rfl, q1, q2, -⟩ := hp.open
  obtain ⟨sa, sc, rfl, t1, t2, -⟩ := hs.open
  unfold maxLen at q2 t2
  obtain ⟨M, hM⟩ : ∃ M, monS p m ml n pl sl fr = M := ⟨_, rfl⟩
  have HMO := hid_ hM
  have HC := hid_ (fun (w' : World) (h : Ex w w') => rCheck_any p m ml _ w' (hmv.ex h))
  rw [hM]
  obtain ⟨B, hB⟩ : ∃ B, w.heap.size = B := ⟨_, rfl⟩
  rw [hB] at a0 a1 a2 b0 b1 b2
  clear hmv hp hs ea eb asz hM
  go_enter Tryz.func22, Tryz.ntmps22
  go_upto_region 1 with fail
  try simp only [hB]
  clear hB
  generalize (w.alloc (.cells #[.int .i64 p, .int .i64 m, .slice ma ml.length mc] 24)).alloc (.cells #[.slice pa pl.length pc, .slice sa sl.length sc, .int .i64 fr] 26) = w1 at *
  have HALL := hid_ (fun w' (h : Ex w1 w') => (⟨h.cell a0, h.cell a1, h.cell a2, h.cell b0, h.cell b1, h.cell b2⟩ : _ ∧ _ ∧ _ ∧ _ ∧ _ ∧ _))
  by_cases hc : chkS p m ml = 0
  · obtain ⟨pn, mn, rfl, rfl, hf, -⟩ := (chk_iff p m ml).1 hc
    have HCK := hid_ (HC.out w1 HX.out)
    rw [hc] at HCK
    have HF := hid_ hf
    have H0 := hid_ hc
    clear hc hf
    go_wp2_with fail
    refine HCK.out.mono ?_
    rintro e w2 ⟨rfl, hx2⟩
    have HX2 := hid_ hx2
    clear a0 a1 a2 b0 b1 b2 hx2 HCK
    obtain ⟨a0, a1, a2, b0, b1, b2⟩ := HALL.out w2 HX2.out
    by_cases hn1 : n < 1
    · have HR := hid_ (show M = 4 from by rw [← HMO.out]; unfold monS; rw [H0.out, if_neg (by decide), if_pos (.inl hn1)])
      have k1 : decide (n < 1) = true := by simpa using hn1
      go_wp2_with fail
      go_ret
      exact ⟨ret_int HR.out.symm, HX.out.trans HX2.out⟩
    · have k1 : decide (n < 1) = false := by simpa using hn1
      by_cases hn2 : 64 < n
      · have HR := hid_ (show M = 4 from by rw [← HMO.out]; unfold monS; rw [H0.out, if_neg (by decide), if_pos (.inr hn2)])
        have k2 : decide (64 < n) = true := by simpa using hn2
        go_wp2_with fail
        go_ret
        exact ⟨ret_int HR.out.symm, HX.out.trans HX2.out⟩
      · have k2 : decide (64 < n) = false := by simpa using hn2
        obtain ⟨N, rfl⟩ : ∃ N : Nat, n = N := ⟨n.toNat, by omega⟩
        by_cases hl1 : pl.length = N
        · have k3 : ((pl.length : Int) != (N : Int)) = false := by simp; omega
          by_cases hl2 : sl.length = N
          · have k4 : ((sl.length : Int) != (N : Int)) = false := by simp; omega
            have HM1 := hid_ (show M = if rngB pl N = false ∨ fr < 0 ∨ (mn : Int) ≤ fr then 6 else if dupB pl = true then 18 else facS (pn ^ mn) sl from by
              rw [← HMO.out]; unfold monS; rw [H0.out, if_neg (by decide), if_neg (by omega), if_neg (by omega)]; rfl)
            have HL := hid_ (And.intro hl1 hl2)
            have HDI := hid_ (rDist_any w2 pl _ (HP.out.ex (HX.out.trans HX2.out)) N)
            clear hl1 hl2
            by_cases hr : rngB pl N = true
            · rw [show disS pl N = 0 from by unfold disS; rw [if_pos hr]] at HDI
              have HR := hid_ hr
              clear hr
              by_cases hf1 : fr < 0
              · have k5 : decide (fr < 0) = true := by simpa using hf1
                have HE := hid_ (show M = 6 from by rw [HM1.out, if_pos (.inr (.inl hf1))])
                go_wp2_with (go_at_call 56; refine HDI.out.mono ?_; rintro e w3 ⟨rfl, rfl⟩)
                go_ret
                exact ⟨ret_int HE.out.symm, HX.out.trans HX2.out⟩
              · have k5 : decide (fr < 0) = false := by simpa using hf1
                by_cases hf2 : (mn : Int) ≤ fr
                · have k6 : decide ((mn : Int) ≤ fr) = true := by simpa using hf2
                  have HE := hid_ (show M = 6 from by rw [HM1.out, if_pos (.inr (.inr hf2))])
                  go_wp2_with (go_at_call 56; refine HDI.out.mono ?_; rintro e w3 ⟨rfl, rfl⟩)
                  go_ret
                  exact ⟨ret_int HE.out.symm, HX.out.trans HX2.out⟩
                · have k6 : decide ((mn : Int) ≤ fr) = false := by simpa using hf2
                  have HM2 := hid_ (show M = if dupB pl = true then 18 else facS (pn ^ mn) sl from by
                    rw [HM1.out, if_neg]
                    rintro (h | h | h)
                    · rw [HR.out] at h; cases h
                    · exact hf1 h
                    · exact hf2 h)
                  have HTW := hid_ (rTwice_any w2 pl _ (HP.out.ex (HX.out.trans HX2.out)))
                  have HFA := hid_ (fun (w' : World) (h : Ex w1 w') => rFac_any (mv := .slice ma ml.length mc) w' HF.out sl _ (HS.out.ex (HX.out.trans h)))
                  by_cases hd : dupB pl = true
                  · rw [hd] at HTW
                    have HE := hid_ (show M = 18 from by rw [HM2.out, if_pos hd])
                    clear hd
                    go_wp2_with (first | (go_at_call 56; refine HDI.out.mono ?_; rintro e w3 ⟨rfl, rfl⟩) | (go_at_call 57; refine HTW.out.mono ?_; rintro e w4 ⟨rfl, hx4⟩; have HX4 := hid_ hx4; clear hx4))
                    go_ret
                    exact ⟨ret_int HE.out.symm, HX.out.trans (HX2.out.trans HX4.out)⟩
                  · have hd : dupB pl = false := by simpa using hd
                    rw [hd] at HTW
                    have HE := hid_ (show M = facS (pn ^ mn) sl from by rw [HM2.out, hd]; rfl)
                    obtain ⟨F, hF⟩ : ∃ F, facS (pn ^ mn) sl = F := ⟨_, rfl⟩
                    rw [hF] at HE HFA
                    clear hd hF
                    go_wp2_with (first | (go_at_call 56; refine HDI.out.mono ?_; rintro e w3 ⟨rfl, rfl⟩) | (go_at_call 57; refine HTW.out.mono ?_; rintro e w4 ⟨rfl, hx4⟩; have HX4 := hid_ (HX2.out.trans hx4); clear hx4 a0 a1 a2 b0 b1 b2; obtain ⟨a0, a1, a2, b0, b1, b2⟩ := HALL.out w4 HX4.out) | (go_at_call 58; refine (HFA.out w4 HX4.out).mono ?_; rintro e w5 ⟨rfl, hx5⟩; have HX5 := hid_ (HX4.out.trans hx5); clear hx5))
                    go_ret
                    exact ⟨ret_int HE.out.symm, HX.out.trans HX5.out⟩
            · have hr : rngB pl N = false := by simpa using hr
              rw [show disS pl N = 6 from by unfold disS; rw [hr]; rfl] at HDI
              have HE := hid_ (show M = 6 from by rw [HM1.out, if_pos (.inl hr)])
              clear hr
              go_wp2_with (go_at_call 56; refine HDI.out.mono ?_; rintro e w3 ⟨rfl, rfl⟩)
              go_ret
              exact ⟨ret_int HE.out.symm, HX.out.trans HX2.out⟩
          · have k4 : ((sl.length : Int) != (N : Int)) = true := by simp; omega
            have HE := hid_ (show M = 3 from by rw [← HMO.out]; unfold monS; rw [H0.out, if_neg (by decide), if_neg (by omega), if_pos (.inr (by omega))])
            have HL := hid_ (And.intro hl1 hl2)
            clear hl1 hl2
            go_wp2_with fail
            go_ret
            exact ⟨ret_int HE.out.symm, HX.out.trans HX2.out⟩
        · have k3 : ((pl.length : Int) != (N : Int)) = true := by simp; omega
          have HE := hid_ (show M = 3 from by rw [← HMO.out]; unfold monS; rw [H0.out, if_neg (by decide), if_neg (by omega), if_pos (.inl (by omega))])
          clear hl1
          go_wp2_with fail
          go_ret
          exact ⟨ret_int HE.out.symm, HX.out.trans HX2.out⟩
  · have hc1 : chkS p m ml = 1 := by rcases chkS_01 p m ml with h | h; exact absurd h hc; exact h
    have HCK := hid_ (HC.out w1 HX.out)
    rw [hc1] at HCK
    have HR := hid_ (show M = 1 from by rw [← HMO.out]; unfold monS; rw [if_pos hc])
    clear hc hc1
    go_wp2_with fail
    refine HCK.out.mono ?_
    rintro e w2 ⟨rfl, hx2⟩
    have HX2 := hid_ (HX.out.trans hx2)
    clear hx2
    go_wp2_with fail
    go_ret
    exact ⟨ret_int HR.out.symm, HX2.out⟩
end Go.Proofs.YtgdmlmhpineibaaGreat
namespace Go.Proofs.YtgdmlmhpineibaaGreat
set_option linter.unusedVariables false
set_option linter.unusedSimpArgs false
open Go.RowKit

/-- Rows and entries together. -/
def sizM (rows : List (List Int)) : Nat := rows.length + (rows.map List.length).sum
def fewM (cols : Int) (rows : List (List Int)) (lim : Int) : Bool := decide (cols ≤ 260 ∧ (sizM rows : Int) ≤ lim)
theorem sum_take_le : ∀ (l : List Nat) (i : Nat), (l.take i).sum ≤ l.sum
  | [], i => by simp
  | x :: l, 0 => by simp
  | x :: l, i + 1 => by have := sum_take_le l i; simp; omega
set_option maxRecDepth 100000 in
set_option maxHeartbeats 1000000 in
theorem rFewM_any (w : World) (cols : Int) (rows : List (List Int)) (v : Value) (hv : MSl w v rows) (lim : Int) (hl0 : 0 ≤ lim) (hl1 : lim ≤ 100000) :
    Calls Tryz.prog 101 #[.agg #[.int .i64 cols, v], .int .i64 lim] w fun r w' => r = .returned (.bool (fewM cols rows lim)) ∧ Ex w w' := by
  obtain ⟨d0, d1, e0⟩ := boxM2_facts w cols v
  obtain ⟨za, zc, rfl, z1, z2, z3⟩ := (hv.ex e0).open
  have Z3 := hid_ z3
  unfold maxLen at z2
  have HE := hid_ e0
  clear hv z3 e0
  obtain ⟨F, hF⟩ : ∃ F, fewM cols rows lim = F := ⟨_, rfl⟩
  have HF := hid_ (show F = decide (cols ≤ 260 ∧ (sizM rows : Int) ≤ lim) from hF.symm)
  rw [hF]
  clear hF
  by_cases h1 : 260 < cols
  · have hF : F = false := by rw [HF.out]; exact decide_eq_false (by omega)
    subst hF
    clear HF
    go_enter Tryz.func101, Tryz.ntmps101
    go_wp2_with fail
    go_ret
    exact ⟨rfl, HE.out⟩
  · have h1' : cols ≤ 260 := by omega
    clear h1
    by_cases h2 : lim < (rows.length : Int)
    · have hF : F = false := by rw [HF.out]; exact decide_eq_false (by unfold sizM; omega)
      subst hF
      clear HF
      go_enter Tryz.func101, Tryz.ntmps101
      go_wp2_with fail
      go_ret
      exact ⟨rfl, HE.out⟩
    · have h2' : (rows.length : Int) ≤ lim := by omega
      have b1 : decide (260 < cols) = false := by simp; omega
      have b2 : decide (lim < (rows.length : Int)) = false := by simp; omega
      clear h2
      go_enter Tryz.func101, Tryz.ntmps101
      go_wp2_with fail
      generalize w.alloc (.cells #[.int .i64 cols, .slice za rows.length zc] 113) = w1 at *
      go_loopw [5, 6] (fun l' i' wr => ∃ (i : Nat) (l : Int), i ≤ rows.length ∧ i' = .int .i64 i ∧ l' = .int .i64 l ∧ 0 ≤ l ∧ l ≤ 100000 ∧ Hid (l = lim - rows.length - (((rows.map List.length).take i).sum : Nat)) ∧ wr = w1) (fun _ i' _ => rows.length - (intOf i').toNat)
      case atStart => exact ⟨0, lim - rows.length, by omega, rfl, by go_num, by omega, by omega, hid_ (by simp), rfl⟩
      case round =>
        obtain ⟨i, l, hi, rfl, rfl, l1, l2, hl, rfl⟩ := hrel
        by_cases hlt : i < rows.length
        · obtain ⟨r, hr⟩ : ∃ r, rows[i]? = some r := ⟨_, List.getElem?_eq_getElem hlt⟩
          have HS := hid_ (show ((rows.map List.length).take (i + 1)).sum = ((rows.map List.length).take i).sum + r.length from by
            rw [List.take_add_one, List.getElem?_map, hr]; simp)
          have HT := hid_ (sum_take_le (rows.map List.length) (i + 1))
          obtain ⟨bb, o, rfl, hc⟩ := Z3.out (by omega)
          obtain ⟨u, c1, hu⟩ := hc i r hr
          obtain ⟨ua, uc, rfl, u1, u2, u3⟩ := hu.open
          unfold maxLen at u2
          clear hc hu u3 hr
          by_cases h3 : l < (r.length : Int)
          · have hF : F = false := by
              rw [HF.out]
              have s1 := hl.out
              have s2 := HS.out
              have s3 := HT.out
              exact decide_eq_false (by unfold sizM; omega)
            subst hF
            clear HF HS HT hl
            go_wp2_with fail
            go_ret
            exact ⟨rfl, HE.out⟩
          · have h3' : (r.length : Int) ≤ l := by omega
            have HL := hid_ (show l - r.length = lim - rows.length - (((rows.map List.length).take (i + 1)).sum : Nat) from by
              have s1 := hl.out
              have s2 := HS.out
              omega)
            clear h3 HS HT hl
            go_wp2_with fail
            go_roundw
            case rel => exact ⟨i + 1, _, by omega, by go_num, (by first | rfl | trivial), by omega, by omega, HL, (by first | rfl | trivial)⟩
            case measure => simp [intOf]; omega
        · obtain rfl : i = rows.length := by omega
          have hF : F = true := by
            rw [HF.out]
            have s1 := hl.out
            rw [List.take_of_length_le (by simp)] at s1
            exact decide_eq_true ⟨h1', by unfold sizM; omega⟩
          subst hF
          clear hl HF
          go_wp2_with fail
          go_ret
          exact ⟨rfl, HE.out⟩
end Go.Proofs.YtgdmlmhpineibaaGreat
