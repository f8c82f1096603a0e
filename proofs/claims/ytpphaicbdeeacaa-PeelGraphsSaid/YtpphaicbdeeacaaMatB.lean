/- Walks of the package matrix: open with one matrix, Check. -/
import Derived.Test.YtpphaicbdeeacaaMatA
namespace Go.Proofs.Ytpphaicbdeeacaa
set_option linter.unusedVariables false
set_option linter.unusedSimpArgs false
open Go.RowKit

/-- What open hands back, for one matrix. -/
def OpenOut (p m : Int) (ml : List Int) (cols : Int) (rows : List (List Int)) (w' : World) (r : Ending) : Prop :=
  (∃ (pn mn x b : Nat), p = pn ∧ m = mn ∧ GFat w' b pn mn ml x ∧ 1 ≤ x ∧ x < pn ^ mn ∧
    ((mchkS (pn ^ mn) cols rows = 0 ∧ r = .returned (.tuple #[.pointer (some ⟨b, 0, none⟩), .int .i64 0])) ∨
     (mchkS (pn ^ mn) cols rows ≠ 0 ∧ r = .returned (.tuple #[.pointer none, .int .i64 (mchkS (pn ^ mn) cols rows)])))) ∨
  (¬ FldB p m ml ∧ r = .returned (.tuple #[.pointer none, .int .i64 1]))

set_option maxRecDepth 100000 in
set_option maxHeartbeats 2000000 in
theorem open1_any (p m : Int) (ml : List Int) (mv : Value) (w : World) (hmv : ISl w mv ml) (cols : Int) (rows : List (List Int)) (v : Value) (hv : MSl w v rows) (B : Nat)
    (c0 : w.cell? ⟨B, 0, none⟩ = some (.int .i64 cols)) (c1 : w.cell? ⟨B, 1, none⟩ = some v) :
    Calls Try.prog 80 #[.agg #[.int .i64 p, .int .i64 m, mv], .slice (some ⟨B, 0, none⟩) 1 1] w fun r w' => OpenOut p m ml cols rows w' r ∧ Ex w w' := by
  obtain ⟨d0, d1, d2, e0, _⟩ := box_facts w p m mv
  obtain ⟨va, vcap, rfl, v1, v2, v3⟩ := hv.open
  clear v1 v2 v3
  have HN := hid_ (fun w' h => New_any p m ml mv w' h)
  have HMV := hid_ hmv
  have HV := hid_ hv
  have C0 := hid_ c0
  have C1 := hid_ c1
  clear hmv hv c0 c1
  go_enter Try.func80, Try.ntmps80
  go_wp2_with fail
  generalize w.alloc (.cells #[.int .i64 p, .int .i64 m, mv] 24) = w1 at *
  refine (HN.out _ (HMV.out.ex e0)).mono ?_
  rintro e w2 ⟨ho, hx2⟩
  rcases ho with ⟨pn, mn, x, b, rfl, rfl, rfl, hg, x1, x2⟩ | ⟨hno, rfl⟩
  · have c0 := (e0.trans hx2).cell C0.out
    have c1 := (e0.trans hx2).cell C1.out
    have HG := hid_ hg
    have e2 := e0.trans hx2
    clear hg d0 d1 d2 hx2
    go_wp2_with fail
    refine wp_loop_rounds 2 ?_
    rw [rounds_succ]
    go_wp2_with fail
    have HMC := hid_ (fun w' (h : Ex w w') (h' : GFat w' b pn mn ml x) => mcheck_any w' h' cols rows _ (HV.out.ex h))
    have HB := hid_ (boxM_facts w2 cols (.slice va rows.length vcap))
    have hx4 : Ex w2 (w2.alloc (.cells #[.int .i64 cols, .slice va rows.length vcap] 27)) := (Ex.refl _).alloc _
    generalize w2.alloc (.cells #[.int .i64 cols, .slice va rows.length vcap] 27) = w4 at *
    refine (HMC.out w4 (e2.trans hx4) (HG.out.ex hx4)).mono ?_
    rintro e w5 ⟨rfl, hx5⟩
    have c0' := hx5.cell (hx4.cell c0)
    have c1' := hx5.cell (hx4.cell c1)
    by_cases h0 : mchkS (pn ^ mn) cols rows = 0
    · have HH := hid_ h0
      rw [h0]
      clear h0
      go_wp2_with fail
      rw [rounds_succ]
      go_wp2_with fail
      go_ret2
      exact ⟨.inl ⟨pn, mn, x, b, rfl, rfl, HG.out.ex (hx4.trans hx5), x1, x2, .inl ⟨HH.out, rfl⟩⟩, (e2.trans hx4).trans hx5⟩
    · obtain ⟨mk, hmk⟩ : ∃ mk, mchkS (pn ^ mn) cols rows = mk := ⟨_, rfl⟩
      rw [hmk] at h0 ⊢
      have HK := hid_ hmk
      have hb : (mk != 0) = true := by simpa using h0
      have HH := hid_ h0
      clear h0 hmk
      go_wp2_with fail
      go_ret2
      exact ⟨.inl ⟨pn, mn, x, b, rfl, rfl, HG.out.ex (hx4.trans hx5), x1, x2, .inr ⟨by rw [HK.out]; exact HH.out, by rw [HK.out]; rfl⟩⟩, (e2.trans hx4).trans hx5⟩
  · have HNO := hid_ hno
    clear hno
    go_wp2_with fail
    go_ret2
    exact ⟨.inr ⟨HNO.out, rfl⟩, e0.trans hx2⟩

/-- What Check says of a matrix over a description. -/
def ChkOut (p m : Int) (ml : List Int) (cols : Int) (rows : List (List Int)) (e : Int) : Prop :=
  (∃ pn mn : Nat, p = pn ∧ m = mn ∧ FldB p m ml ∧ e = mchkS (pn ^ mn) cols rows) ∨ (¬ FldB p m ml ∧ e = 1)

theorem GFat.fldB {w : World} {b p m x : Nat} {ml : List Int} (h : GFat w b p m ml x) (h1 : 1 ≤ x) (h2 : x < p ^ m) : FldB p m ml := ⟨p, m, rfl, rfl, h.sh, h.pr, x, h1, h2, h.gen⟩

set_option maxRecDepth 100000 in
set_option maxHeartbeats 2000000 in
theorem mCheck_any (p m : Int) (ml : List Int) (mv : Value) (w : World) (hmv : ISl w mv ml) (cols : Int) (rows : List (List Int)) (v : Value) (hv : MSl w v rows) :
    Calls Try.prog 42 #[.agg #[.int .i64 p, .int .i64 m, mv], .agg #[.int .i64 cols, v]] w fun r w' => ∃ e, r = .returned (.int .i64 e) ∧ ChkOut p m ml cols rows e ∧ Ex w w' := by
  obtain ⟨d0, d1, d2, e0, hs⟩ := box_facts w p m mv
  obtain ⟨va, vcap, rfl, v1, v2, v3⟩ := hv.open
  clear v1 v2 v3
  have HO := hid_ (fun w' B h1 h2 h3 h4 => open1_any p m ml mv w' h1 cols rows (.slice va rows.length vcap) h2 B h3 h4)
  have HMV := hid_ hmv
  have HV := hid_ hv
  clear hmv hv
  go_enter Try.func42, Try.ntmps42
  go_wp2_with fail
  have hx3 : Ex w (((w.alloc (.cells #[.int .i64 p, .int .i64 m, mv] 24)).alloc (.cells #[.int .i64 cols, .slice va rows.length vcap] 27)).alloc (.cells #[.int .i64 cols, .slice va rows.length vcap] 27)) := (e0.alloc _).alloc _
  refine (HO.out _ (w.heap.size + 1 + 1) (HMV.out.ex hx3) (HV.out.ex hx3) (by have := (boxM_facts ((w.alloc (.cells #[.int .i64 p, .int .i64 m, mv] 24)).alloc (.cells #[.int .i64 cols, .slice va rows.length vcap] 27)) cols (.slice va rows.length vcap)).1; simpa using this) (by have := (boxM_facts ((w.alloc (.cells #[.int .i64 p, .int .i64 m, mv] 24)).alloc (.cells #[.int .i64 cols, .slice va rows.length vcap] 27)) cols (.slice va rows.length vcap)).2.1; simpa using this)).mono ?_
  rintro e w2 ⟨ho, hx⟩
  rcases ho with ⟨pn, mn, x, b, rfl, rfl, hg, x1, x2, ⟨hm, rfl⟩ | ⟨hm, rfl⟩⟩ | ⟨hno, rfl⟩
  · have HC := hid_ (show ChkOut pn mn ml cols rows 0 from .inl ⟨pn, mn, rfl, rfl, hg.fldB x1 x2, hm.symm⟩)
    clear hg hm
    go_wp2_with fail
    go_ret
    exact ⟨_, rfl, HC.out, hx3.trans hx⟩
  · have HC := hid_ (show ChkOut pn mn ml cols rows (mchkS (pn ^ mn) cols rows) from .inl ⟨pn, mn, rfl, rfl, hg.fldB x1 x2, rfl⟩)
    clear hg hm
    generalize mchkS (pn ^ mn) cols rows = mk at *
    go_wp2_with fail
    go_ret
    exact ⟨_, rfl, HC.out, hx3.trans hx⟩
  · have HC := hid_ (show ChkOut p m ml cols rows 1 from .inr ⟨hno, rfl⟩)
    clear hno
    go_wp2_with fail
    go_ret
    exact ⟨_, rfl, HC.out, hx3.trans hx⟩
end Go.Proofs.Ytpphaicbdeeacaa
