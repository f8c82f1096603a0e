/- Walk of equivalence.Word. -/
/- Walk of codewrightref31.Check. -/
import Derived.Deep.CutRange
import Derived.Test.YtgdmlmhpineibaaGreatZa25
import Derived.Test.YtgdmlmhpineibaaGreatZa26
namespace Go.Proofs.YtgdmlmhpineibaaGreat
set_option linter.unusedVariables false
set_option linter.unusedSimpArgs false
open Go.RowKit

/-- The error of a map and a word. -/
def wrdE (p m : Int) (ml pl sl : List Int) (fr : Int) (x : List Int) : Int :=
  if monS p m ml pl.length pl sl fr ≠ 0 then monS p m ml pl.length pl sl fr else if x.length ≠ pl.length then 4 else if (x.any fun y => !isB (p.toNat ^ m.toNat) y) = true then 2 else 0
def wrdL (p m : Int) (ml pl sl : List Int) (fr : Int) (x : List Int) : List Int :=
  if wrdE p m ml pl sl fr x ≠ 0 then [] else il x.length (imgF p.toNat m.toNat ml pl sl fr.toNat x x.length)
def WrdR (l : List Int) (e : Int) (r : Ending) (w' : World) : Prop := ∃ v, r = .returned (.tuple #[v, .int .i64 e]) ∧ ISl w' v l
/-- What monS = 0 says. -/
theorem mon_ok {p m : Int} {ml : List Int} {n : Int} {pl sl : List Int} {fr : Int} (h : monS p m ml n pl sl fr = 0) :
    chkS p m ml = 0 ∧ 1 ≤ n ∧ n ≤ 64 ∧ (pl.length : Int) = n ∧ (sl.length : Int) = n ∧ rngB pl n = true ∧ 0 ≤ fr ∧ fr < m ∧ dupB pl = false ∧ facS (p.toNat ^ m.toNat) sl = 0 := by
  unfold monS at h
  split at h
  · cases h
  rename_i h1
  split at h
  · cases h
  rename_i h2
  split at h
  · cases h
  rename_i h3
  split at h
  · cases h
  rename_i h4
  split at h
  · cases h
  rename_i h5
  refine ⟨by simpa using h1, by omega, by omega, by omega, by omega, ?_, by omega, by omega, by simpa using h5, h⟩
  cases hr : rngB pl n with
  | true => rfl
  | false => exact absurd (.inl hr) h4
section
variable {b p m x0 : Nat} {ml : List Int}
set_option maxRecDepth 100000 in
set_option maxHeartbeats 1000000 in
theorem wrd1_any (w : World) (B : Nat) (hg : GFat w b p m ml x0) (x : Int) (c0 : w.cell? ⟨B, 0, none⟩ = some (.pointer (some ⟨b, 0, none⟩))) :
    Calls Tryz.prog 48 #[.int .i64 x, .pointer (some ⟨B, 0, none⟩)] w fun r w' => r = .returned (.bool (!isB (p ^ m) x)) ∧ Ex w w' := by
  have HI := hid_ (Is_any w hg x)
  obtain ⟨z, hz⟩ : ∃ z, isB (p ^ m) x = z := ⟨_, rfl⟩
  rw [hz] at HI ⊢
  clear hg hz
  go_enter Tryz.func48, Tryz.ntmps48
  go_wp2_with (go_at_call 49; refine HI.out.mono ?_; rintro e w1 ⟨rfl, n1, rfl⟩)
  go_ret
  exact ⟨rfl, (Ex.refl w).drewN _⟩
end

set_option maxRecDepth 100000 in
set_option maxHeartbeats 4000000 in
theorem Word_any (w : World) (p m : Int) (ml : List Int) (mv : Value) (hmv : ISl w mv ml) (pl sl : List Int) (pv sv : Value) (hp : ISl w pv pl) (hs : ISl w sv sl) (fr : Int) (x : List Int) (xv : Value) (hx : ISl w xv x) :
    Calls Tryz.prog 15 #[.agg #[.int .i64 p, .int .i64 m, mv], .agg #[pv, sv, .int .i64 fr], xv] w fun r w' => WrdR (wrdL p m ml pl sl fr x) (wrdE p m ml pl sl fr x) r w' ∧ Ex w w' := by
  obtain ⟨a0, a1, a2, ea⟩ := boxF_facts w p m mv
  obtain ⟨b0, b1, b2, eb⟩ := boxMo_facts (w.alloc (.cells #[.int .i64 p, .int .i64 m, mv] 24)) pv sv fr
  have a0 := eb.cell a0
  have a1 := eb.cell a1
  have a2 := eb.cell a2
  have hsz : (w.alloc (.cells #[.int .i64 p, .int .i64 m, mv] 24)).heap.size = w.heap.size + 1 := by simp
  rw [hsz] at b0 b1 b2
  have HE := hid_ (ea.trans eb)
  have HOP := hid_ (eOpen_any _ p m ml mv (hmv.ex HE.out) pl.length pl sl pv sv (hp.ex HE.out) (hs.ex HE.out) fr)
  have HP := hid_ (hp.ex HE.out)
  have HS := hid_ (hs.ex HE.out)
  have HXL := hid_ (hx.ex HE.out)
  obtain ⟨ma, mc, rfl, _, _, _⟩ := hmv.open
  obtain ⟨pa, pc, rfl, _, p2, _⟩ := hp.open
  obtain ⟨sa, sc, rfl, _, s2, _⟩ := hs.open
  obtain ⟨xa, xc, rfl, _, x2, _⟩ := hx.open
  unfold maxLen at p2 s2 x2
  obtain ⟨E, hE⟩ : ∃ E, monS p m ml pl.length pl sl fr = E := ⟨_, rfl⟩
  obtain ⟨W, hW⟩ : ∃ W, wrdE p m ml pl sl fr x = W := ⟨_, rfl⟩
  obtain ⟨L, hL⟩ : ∃ L, wrdL p m ml pl sl fr x = L := ⟨_, rfl⟩
  have hWD := hW
  unfold wrdE at hWD
  rw [hE] at hWD HOP
  have hLD := hL
  unfold wrdL at hLD
  rw [hW] at hLD
  rw [hW, hL]
  have HME := hid_ hE
  clear hmv hp hs hx hE hsz ea eb hW hL
  go_enter Tryz.func15, Tryz.ntmps15
  go_wp2_with fail
  obtain ⟨q, hq⟩ : ∃ q, w.heap.size = q := ⟨_, rfl⟩
  rw [hq] at a0 a1 a2 b0 b1 b2
  try simp only [hq]
  clear hq
  generalize (w.alloc (.cells #[.int .i64 p, .int .i64 m, .slice ma ml.length mc] 24)).alloc (.cells #[.slice pa pl.length pc, .slice sa sl.length sc, .int .i64 fr] 26) = w1 at *
  have B0 := hid_ b0
  have B1 := hid_ b1
  have B2 := hid_ b2
  clear a0 a1 a2 b0 b1 b2
  refine HOP.out.mono ?_
  rintro e w2 ⟨ho, hx2⟩
  have HX2 := hid_ hx2
  rcases ho with ⟨rfl, b, pn, mn, x0, rfl, rfl, rfl, hg, x1, x2'⟩ | ⟨h0, ptr, rfl⟩
  · rw [if_neg (by decide), Int.toNat_natCast, Int.toNat_natCast] at hWD
    rw [Int.toNat_natCast, Int.toNat_natCast] at hLD
    obtain ⟨_, n1, n2, n3, n4, n5, n6, n7, _, _⟩ := mon_ok HME.out
    obtain ⟨fn, rfl⟩ : ∃ fn : Nat, fr = fn := ⟨fr.toNat, by omega⟩
    rw [Int.toNat_natCast] at hLD
    have ec : Ex w2 (w2.alloc (.cells #[.pointer (some ⟨b, 0, none⟩)] 79)) := (Ex.refl _).alloc _
    have c0 : (w2.alloc (.cells #[.pointer (some ⟨b, 0, none⟩)] 79)).cell? ⟨w2.heap.size, 0, none⟩ = some (.pointer (some ⟨b, 0, none⟩)) := by simp
    have b0 := (hx2.trans ec).cell B0.out
    have b1 := (hx2.trans ec).cell B1.out
    have b2 := (hx2.trans ec).cell B2.out
    have HX3 := hid_ (HE.out.trans (hx2.trans ec))
    have HG := hid_ (hg.ex ec)
    have HP3 := hid_ (HP.out.ex (hx2.trans ec))
    have HS3 := hid_ (HS.out.ex (hx2.trans ec))
    have HX3' := hid_ (HXL.out.ex (hx2.trans ec))
    clear hg hx2 ec x1 x2'
    by_cases hl : x.length = pl.length
    · have e1 : ((x.length : Int) != (pl.length : Int)) = false := by simp; omega
      rw [if_neg (by simpa using hl)] at hWD
      obtain ⟨w3, hw3⟩ : ∃ w3, w2.alloc (.cells #[.pointer (some ⟨b, 0, none⟩)] 79) = w3 := ⟨_, rfl⟩
      obtain ⟨B, hB⟩ : ∃ B, w2.heap.size = B := ⟨_, rfl⟩
      rw [hw3] at c0 b0 b1 b2 HX3 HG HP3 HS3 HX3'
      rw [hB] at c0
      have hc := ContainsFunc_wrd w3 (.pointer (some ⟨B, 0, none⟩)) _ x.length (ints x) HX3'.out (fun j => !isB (pn ^ mn) (x.getD j 0)) fun w1 i u hx hu => by
        obtain ⟨y, _, rfl, hx2⟩ := ints_at hu
        rw [hx2]
        exact wrd1_any w1 B (HG.out.ex hx) y (hx.cell c0)
      rw [any_getD x fun y => !isB (pn ^ mn) y] at hc
      have HC := hid_ hc
      have C0 := hid_ c0
      have CB0 := hid_ b0
      have CB1 := hid_ b1
      have CB2 := hid_ b2
      have HW3 := hid_ hw3
      have HBB := hid_ hB
      obtain ⟨y, hy⟩ : ∃ y, (x.any fun y => !isB (pn ^ mn) y) = y := ⟨_, rfl⟩
      rw [hy] at HC hWD
      have HLN := hid_ hl
      clear hc hy hl c0 b1 b2 hw3 hB
      cases y with
      | true =>
        rw [if_pos rfl] at hWD
        subst hWD
        rw [if_pos (by decide)] at hLD
        subst hLD
        rw [← HW3.out] at b0
        go_wp2_with fail
        rw [HBB.out, HW3.out]
        refine HC.out.mono ?_
        rintro e w5 ⟨rfl, hx5⟩
        go_wp2_with fail
        go_ret2
        exact ⟨⟨_, rfl, isl_nil _⟩, HX3.out.trans hx5⟩
      | false =>
        rw [if_neg (by decide)] at hWD
        subst hWD
        rw [if_neg (by decide)] at hLD
        subst hLD
        rw [← HW3.out] at b0
        go_wp2_with fail
        rw [HBB.out, HW3.out]
        refine HC.out.mono ?_
        rintro e w5 ⟨rfl, hx5⟩
        have c0 := hx5.cell C0.out
        have b0 := hx5.cell CB0.out
        have b1 := hx5.cell CB1.out
        have b2 := hx5.cell CB2.out
        have him := image_any w5 (HG.out.ex hx5) x.length (by have := HLN.out; omega) pl sl x _ _ _ (HP3.out.ex hx5) (HS3.out.ex hx5) (HX3'.out.ex hx5) fn (by omega) (by have := HLN.out; omega) (by have := HLN.out; omega) rfl (by rw [HLN.out]; exact n5)
        have HIM := hid_ him
        have HX5 := hid_ (HX3.out.trans hx5)
        clear him hx5
        go_wp2_with fail
        refine HIM.out.mono ?_
        rintro e w6 ⟨g, rfl, ho6, hx6⟩
        go_wp2_with fail
        go_ret2
        exact ⟨⟨_, rfl, ho6.isl⟩, HX5.out.trans hx6⟩
    · have e1 : ((x.length : Int) != (pl.length : Int)) = true := by simp; omega
      rw [if_pos hl] at hWD
      subst hWD
      rw [if_pos (by decide)] at hLD
      subst hLD
      clear hl
      go_wp2_with fail
      go_ret2
      exact ⟨⟨_, rfl, isl_nil _⟩, HX3.out⟩
  · rw [if_pos h0] at hWD
    subst hWD
    rw [if_pos h0] at hLD
    subst hLD
    have hb : (E != 0) = true := by simpa using h0
    have b0 := hx2.cell B0.out
    clear h0
    go_wp2_with fail
    go_ret2
    exact ⟨⟨_, rfl, isl_nil _⟩, (HE.out.trans hx2).alloc _⟩
end Go.Proofs.YtgdmlmhpineibaaGreat
namespace Go.Proofs.YtgdmlmhpineibaaGreat
set_option linter.unusedVariables false
set_option linter.unusedSimpArgs false
open Go.RowKit

theorem chkS_01 (p m : Int) (ml : List Int) : chkS p m ml = 0 ∨ chkS p m ml = 1 := by
  unfold chkS; split
  · exact .inl rfl
  · exact .inr rfl
set_option maxRecDepth 100000 in
set_option maxHeartbeats 4000000 in
theorem rMCheck_any (w : World) (p m : Int) (ml : List Int) (mv : Value) (hmv : ISl w mv ml) (n : Int) (pl sl : List Int) (pv sv : Value) (hp : ISl w pv pl) (hs : ISl w sv sl) (fr : Int) :
    Calls Tryz.prog 22 #[.agg #[.int .i64 p, .int .i64 m, mv], .int .i64 n, .agg #[pv, sv, .int .i64 fr]] w fun r w' => r = .returned (.int .i64 (monS p m ml n pl sl fr)) ∧ Ex w w' := by
  obtain ⟨a0, a1, a2, ea⟩ := boxF_facts w p m mv
  obtain ⟨b0, b1, b2, eb⟩ := boxMo_facts (w.alloc (.cells #[.int .i64 p, .int .i64 m, mv] 24)) pv sv fr
  have asz : (w.alloc (.cells #[.int .i64 p, .int .i64 m, mv] 24)).heap.size = w.heap.size + 1 := by simp
  rw [asz] at b0 b1 b2
  replace a0 := eb.cell a0
  replace a1 := eb.cell a1
  replace a2 := eb.cell a2
  have HX := hid_ (ea.trans eb)
  have HM := hid_ hmv
  have HP := hid_ hp
  have HS := hid_ hs
  obtain ⟨ma, mc, rfl, -, -, -⟩ := hmv.open
  obtain ⟨pa, pc, rfl, q1, q2, -⟩ := hp.open
  obtain ⟨sa, sc, rfl, t1, t2, -⟩ := hs.open
  unfold maxLen at q2 t2
  obtain ⟨M, hM⟩ : ∃ M, monS p m ml n pl sl fr = M := ⟨_, rfl⟩
  have HMO := hid_ hM
  have HC := hid_ (fun (w' : World) (h : Ex w w') => rCheck_any p m ml _ w' (hmv.ex h))
  rw [hM]
  obtain ⟨B, hB⟩ : ∃ B, w.heap.size = B := ⟨_, rfl⟩
  rw [hB] at a0 a1 a2 b0 b1 b2
  clear hmv hp hs ea eb asz hM
  go_enter Tryz.func22, Tryz.ntmps22
  go_upto_region 1 with fail
  try simp only [hB]
  clear hB
  generalize (w.alloc (.cells #[.int .i64 p, .int .i64 m, .slice ma ml.length mc] 24)).alloc (.cells #[.slice pa pl.length pc, .slice sa sl.length sc, .int .i64 fr] 26) = w1 at *
  have HALL := hid_ (fun w' (h : Ex w1 w') => (⟨h.cell a0, h.cell a1, h.cell a2, h.cell b0, h.cell b1, h.cell b2⟩ : _ ∧ _ ∧ _ ∧ _ ∧ _ ∧ _))
  by_cases hc : chkS p m ml = 0
  · obtain ⟨pn, mn, rfl, rfl, hf, -⟩ := (chk_iff p m ml).1 hc
    have HCK := hid_ (HC.out w1 HX.out)
    rw [hc] at HCK
    have HF := hid_ hf
    have H0 := hid_ hc
    clear hc hf
    go_wp2_with fail
    refine HCK.out.mono ?_
    rintro e w2 ⟨rfl, hx2⟩
    have HX2 := hid_ hx2
    clear a0 a1 a2 b0 b1 b2 hx2 HCK
    obtain ⟨a0, a1, a2, b0, b1, b2⟩ := HALL.out w2 HX2.out
    by_cases hn1 : n < 1
    · have HR := hid_ (show M = 4 from by rw [← HMO.out]; unfold monS; rw [H0.out, if_neg (by decide), if_pos (.inl hn1)])
      have k1 : decide (n < 1) = true := by simpa using hn1
      go_wp2_with fail
      go_ret
      exact ⟨ret_int HR.out.symm, HX.out.trans HX2.out⟩
    · have k1 : decide (n < 1) = false := by simpa using hn1
      by_cases hn2 : 64 < n
      · have HR := hid_ (show M = 4 from by rw [← HMO.out]; unfold monS; rw [H0.out, if_neg (by decide), if_pos (.inr hn2)])
        have k2 : decide (64 < n) = true := by simpa using hn2
        go_wp2_with fail
        go_ret
        exact ⟨ret_int HR.out.symm, HX.out.trans HX2.out⟩
      · have k2 : decide (64 < n) = false := by simpa using hn2
        obtain ⟨N, rfl⟩ : ∃ N : Nat, n = N := ⟨n.toNat, by omega⟩
        by_cases hl1 : pl.length = N
        · have k3 : ((pl.length : Int) != (N : Int)) = false := by simp; omega
          by_cases hl2 : sl.length = N
          · have k4 : ((sl.length : Int) != (N : Int)) = false := by simp; omega
            have HM1 := hid_ (show M = if rngB pl N = false ∨ fr < 0 ∨ (mn : Int) ≤ fr then 6 else if dupB pl = true then 18 else facS (pn ^ mn) sl from by
              rw [← HMO.out]; unfold monS; rw [H0.out, if_neg (by decide), if_neg (by omega), if_neg (by omega)]; rfl)
            have HL := hid_ (And.intro hl1 hl2)
            have HDI := hid_ (rDist_any w2 pl _ (HP.out.ex (HX.out.trans HX2.out)) N)
            clear hl1 hl2
            by_cases hr : rngB pl N = true
            · rw [show disS pl N = 0 from by unfold disS; rw [if_pos hr]] at HDI
              have HR := hid_ hr
              clear hr
              by_cases hf1 : fr < 0
              · have k5 : decide (fr < 0) = true := by simpa using hf1
                have HE := hid_ (show M = 6 from by rw [HM1.out, if_pos (.inr (.inl hf1))])
                go_wp2_with (go_at_call 56; refine HDI.out.mono ?_; rintro e w3 ⟨rfl, rfl⟩)
                go_ret
                exact ⟨ret_int HE.out.symm, HX.out.trans HX2.out⟩
              · have k5 : decide (fr < 0) = false := by simpa using hf1
                by_cases hf2 : (mn : Int) ≤ fr
                · have k6 : decide ((mn : Int) ≤ fr) = true := by simpa using hf2
                  have HE := hid_ (show M = 6 from by rw [HM1.out, if_pos (.inr (.inr hf2))])
                  go_wp2_with (go_at_call 56; refine HDI.out.mono ?_; rintro e w3 ⟨rfl, rfl⟩)
                  go_ret
                  exact ⟨ret_int HE.out.symm, HX.out.trans HX2.out⟩
                · have k6 : decide ((mn : Int) ≤ fr) = false := by simpa using hf2
                  have HM2 := hid_ (show M = if dupB pl = true then 18 else facS (pn ^ mn) sl from by
                    rw [HM1.out, if_neg]
                    rintro (h | h | h)
                    · rw [HR.out] at h; cases h
                    · exact hf1 h
                    · exact hf2 h)
                  have HTW := hid_ (rTwice_any w2 pl _ (HP.out.ex (HX.out.trans HX2.out)))
                  have HFA := hid_ (fun (w' : World) (h : Ex w1 w') => rFac_any (mv := .slice ma ml.length mc) w' HF.out sl _ (HS.out.ex (HX.out.trans h)))
                  by_cases hd : dupB pl = true
                  · rw [hd] at HTW
                    have HE := hid_ (show M = 18 from by rw [HM2.out, if_pos hd])
                    clear hd
                    go_wp2_with (first | (go_at_call 56; refine HDI.out.mono ?_; rintro e w3 ⟨rfl, rfl⟩) | (go_at_call 57; refine HTW.out.mono ?_; rintro e w4 ⟨rfl, hx4⟩; have HX4 := hid_ hx4; clear hx4))
                    go_ret
                    exact ⟨ret_int HE.out.symm, HX.out.trans (HX2.out.trans HX4.out)⟩
                  · have hd : dupB pl = false := by simpa using hd
                    rw [hd] at HTW
                    have HE := hid_ (show M = facS (pn ^ mn) sl from by rw [HM2.out, hd]; rfl)
                    obtain ⟨F, hF⟩ : ∃ F, facS (pn ^ mn) sl = F := ⟨_, rfl⟩
                    rw [hF] at HE HFA
                    clear hd hF
                    go_wp2_with (first | (go_at_call 56; refine HDI.out.mono ?_; rintro e w3 ⟨rfl, rfl⟩) | (go_at_call 57; refine HTW.out.mono ?_; rintro e w4 ⟨rfl, hx4⟩; have HX4 := hid_ (HX2.out.trans hx4); clear hx4 a0 a1 a2 b0 b1 b2; obtain ⟨a0, a1, a2, b0, b1, b2⟩ := HALL.out w4 HX4.out) | (go_at_call 58; refine (HFA.out w4 HX4.out).mono ?_; rintro e w5 ⟨rfl, hx5⟩; have HX5 := hid_ (HX4.out.trans hx5); clear hx5))
                    go_ret
                    exact ⟨ret_int HE.out.symm, HX.out.trans HX5.out⟩
            · have hr : rngB pl N = false := by simpa using hr
              rw [show disS pl N = 6 from by unfold disS; rw [hr]; rfl] at HDI
              have HE := hid_ (show M = 6 from by rw [HM1.out, if_pos (.inl hr)])
              clear hr
              go_wp2_with (go_at_call 56; refine HDI.out.mono ?_; rintro e w3 ⟨rfl, rfl⟩)
              go_ret
              exact ⟨ret_int HE.out.symm, HX.out.trans HX2.out⟩
          · have k4 : ((sl.length : Int) != (N : Int)) = true := by simp; omega
            have HE := hid_ (show M = 3 from by rw [← HMO.out]; unfold monS; rw [H0.out, if_neg (by decide), if_neg (by omega), if_pos (.inr (by omega))])
            have HL := hid_ (And.intro hl1 hl2)
            clear hl1 hl2
            go_wp2_with fail
            go_ret
            exact ⟨ret_int HE.out.symm, HX.out.trans HX2.out⟩
        · have k3 : ((pl.length : Int) != (N : Int)) = true := by simp; omega
          have HE := hid_ (show M = 3 from by rw [← HMO.out]; unfold monS; rw [H0.out, if_neg (by decide), if_neg (by omega), if_pos (.inl (by omega))])
          clear hl1
          go_wp2_with fail
          go_ret
          exact ⟨ret_int HE.out.symm, HX.out.trans HX2.out⟩
  · have hc1 : chkS p m ml = 1 := by rcases chkS_01 p m ml with h | h; exact absurd h hc; exact h
    have HCK := hid_ (HC.out w1 HX.out)
    rw [hc1] at HCK
    have HR := hid_ (show M = 1 from by rw [← HMO.out]; unfold monS; rw [if_pos hc])
    clear hc hc1
    go_wp2_with fail
    refine HCK.out.mono ?_
    rintro e w2 ⟨rfl, hx2⟩
    have HX2 := hid_ (HX.out.trans hx2)
    clear hx2
    go_wp2_with fail
    go_ret
    exact ⟨ret_int HR.out.symm, HX2.out⟩
end Go.Proofs.YtgdmlmhpineibaaGreat
