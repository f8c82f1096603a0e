/- Walks of chapter 31's short, EquivalenceMaps and EquivalenceComposes. -/
/- Plain: monomial maps compose, have inverses, keep weights. -/
/- Arguments that are Code values, partial maps and cases of chapter 31: opened out of their readings. -/
import Derived.Test.YtgdmlmhpineibaaGreatZb18
import Derived.Test.YtgdmlmhpineibaaGreatZb24
import Derived.Test.YtgdmlmhpineibaaGreatZb37
import Derived.Test.YtgdmlmhpineibaaGreatZb45
import Derived.Test.YtgdmlmhpineibaaGreatZb47
import Derived.Test.YtgdmlmhpineibaaGreatZb49
namespace Go.Proofs.YtgdmlmhpineibaaGreat
set_option linter.unusedVariables false
set_option linter.unusedSimpArgs false
open Go.RowKit

def shoB (pl sl : List Int) : Bool := decide (pl.length ≤ 100) && decide (sl.length ≤ 100)
set_option maxRecDepth 100000 in
set_option maxHeartbeats 4000000 in
theorem short_any (w : World) (pl sl : List Int) (pv sv : Value) (hp : ISl w pv pl) (hs : ISl w sv sl) (fr : Int) :
    Calls Tryz.prog 13 #[.agg #[pv, sv, .int .i64 fr]] w fun r w' => r = .returned (.bool (shoB pl sl)) ∧ Ex w w' := by
  obtain ⟨b0, b1, b2, eb⟩ := boxMo_facts w pv sv fr
  have HX := hid_ eb
  obtain ⟨pa, pc, rfl, -, q2, -⟩ := hp.open
  obtain ⟨sa, sc, rfl, -, s2, -⟩ := hs.open
  unfold maxLen at q2 s2
  obtain ⟨R, hR⟩ : ∃ R, shoB pl sl = R := ⟨_, rfl⟩
  have HR := hid_ (show R = (decide (pl.length ≤ 100) && decide (sl.length ≤ 100)) from hR.symm)
  rw [hR]
  clear hp hs eb hR
  by_cases h1 : pl.length ≤ 100
  · have k1 : decide ((pl.length : Int) ≤ 100) = true := by simp; omega
    have j1 : (pl.length : Int) ≤ 100 := by omega
    by_cases h2 : sl.length ≤ 100
    · have k2 : decide ((sl.length : Int) ≤ 100) = true := by simp; omega
      have j2 : (sl.length : Int) ≤ 100 := by omega
      have HE := hid_ (show R = true from by rw [HR.out]; simp [h1, h2])
      go_enter Tryz.func13, Tryz.ntmps13
      go_wp2_with fail
      go_ret
      exact ⟨by rw [HE.out]; rfl, HX.out⟩
    · have k2 : decide ((sl.length : Int) ≤ 100) = false := by simp; omega
      have j2 : ¬ (sl.length : Int) ≤ 100 := by omega
      have HE := hid_ (show R = false from by rw [HR.out]; simp [h2])
      go_enter Tryz.func13, Tryz.ntmps13
      go_wp2_with fail
      go_ret
      exact ⟨by rw [HE.out]; rfl, HX.out⟩
  · have k1 : decide ((pl.length : Int) ≤ 100) = false := by simp; omega
    have j1 : ¬ (pl.length : Int) ≤ 100 := by omega
    have HE := hid_ (show R = false from by rw [HR.out]; simp [h1])
    go_enter Tryz.func13, Tryz.ntmps13
    go_wp2_with fail
    go_ret
    exact ⟨by rw [HE.out]; rfl, HX.out⟩
end Go.Proofs.YtgdmlmhpineibaaGreat
namespace Go.Proofs.YtgdmlmhpineibaaGreat
set_option linter.unusedVariables false
set_option linter.unusedSimpArgs false
open Go.RowKit

section
variable {p m : Nat} {low : Vc}
end

/-- A valid map. -/
structure MonOK (p m : Nat) (ml pl sl : List Int) (fr N : Nat) : Prop where
  hp : 2 ≤ p
  hm : 1 ≤ m
  hF : IsF p m (lw ml)
  n1 : 1 ≤ N
  n2 : N ≤ 64
  pll : pl.length = N
  sll : sl.length = N
  inj : InjN N (piF pl)
  sc : ∀ i, i < N → ∃ z : Nat, sl.getD i 0 = z ∧ 1 ≤ z ∧ z < p ^ m
  frm : fr < m
theorem injN_of {pl : List Int} {N : Nat} (hl : pl.length = N) (hr : rngB pl N = true) (hd : dupB pl = false) : InjN N (piF pl) := by
  refine ⟨fun i hi => ?_, fun i j hi hj e => Classical.byContradiction fun hij => ?_⟩
  · have := rngB_at hr (i := i) (by omega)
    unfold piF; omega
  · have h1 := rngB_at hr (i := i) (by omega)
    have h2 := rngB_at hr (i := j) (by omega)
    have : dupB pl = true := dupB_iff.2 (by
      unfold piF at e
      rcases Nat.lt_or_gt_of_ne hij with h | h
      · exact ⟨j, i, h, by omega, by omega⟩
      · exact ⟨i, j, h, by omega, by omega⟩)
    rw [hd] at this; cases this
theorem monOK_of {p m : Int} {ml : List Int} {n : Int} {pl sl : List Int} {fr : Int} (h : monS p m ml n pl sl fr = 0) :
    ∃ (pn mn N fn : Nat), p = pn ∧ m = mn ∧ n = N ∧ fr = fn ∧ FSh pn mn ml ∧ chkS p m ml = 0 ∧ MonOK pn mn ml pl sl fn N := by
  obtain ⟨n0, n1, n2, n3, n4, n5, n6, n7, n8, n9⟩ := mon_ok h
  obtain ⟨pn, mn, rfl, rfl, hf, hpr, hF⟩ := (chk_iff _ _ _).1 n0
  obtain ⟨fn, rfl⟩ : ∃ fn : Nat, fr = fn := ⟨fr.toNat, by omega⟩
  obtain ⟨N, rfl⟩ : ∃ N : Nat, n = N := ⟨n.toNat, by omega⟩
  exact ⟨pn, mn, N, fn, rfl, rfl, rfl, rfl, hf, n0, hf.p2, hf.m1, hF, by omega, by omega, by omega, by omega, injN_of (by omega) n5 n8, fun i hi => fac_at (by simpa only [Int.toNat_natCast] using n9) (by omega), by omega⟩
section
variable {p m : Nat} {ml pl sl : List Int} {fr N : Nat} {x : List Int}
end
section
variable {p m : Nat} {ml pl sl ql tl : List Int} {fr fs N : Nat} {x : List Int}
end
end Go.Proofs.YtgdmlmhpineibaaGreat
namespace Go.Proofs.YtgdmlmhpineibaaGreat
set_option linter.unusedVariables false
set_option linter.unusedSimpArgs false
open Go.RowKit Go.ChangeShapes Go.WideShapes Go.ChangeAt

theorem rfC_get : ∀ (es : List Rf) (mvs : List Value), mvs.length = es.length → ∀ i, i < es.length → ∀ j, j < 4 → (rfC es mvs)[i * 4 + j]? = (((es.getD i dRf).cells (mvs.getD i undef)))[j]? := fun es => by
  induction es with
  | nil => intro mvs _ i hi; simp at hi
  | cons e es ih =>
    intro mvs hm i hi j hj
    cases mvs with
    | nil => simp at hm
    | cons u mvs =>
      show (e.cells u ++ rfC es mvs)[i * 4 + j]? = _
      cases i with
      | zero => rw [List.getElem?_append_left (by simp [Rf.cells]; omega)]; simp
      | succ i =>
        rw [List.getElem?_append_right (by simp [Rf.cells]; omega)]
        have := ih mvs (by simpa using hm) i (by simpa using hi) j hj
        rw [show (i + 1) * 4 + j - (e.cells u).length = i * 4 + j from by simp [Rf.cells]; omega, this]
        simp
section
variable {H : Type} {enc : TypeId × Value → H} {W : World} {held : Bool}
set_option maxRecDepth 100000 in
theorem rsl_trod {fuel : Nat} {v : Value} {y : DataW H × List MemPlace} (h : DataW.trod enc Tryz.prog W 0 (fun _ => true) held fuel 52 [v] = some y) : ∃ es, RSl W v es := by
  rcases Go.Deep.open_slice Tryz.underlying52 h with ⟨hcs, _⟩ | ⟨x, len, cap, m, n, D, Pl, hcs, _, hl, hm, hmm, _, hr⟩
  · simp at hcs; subst hcs
    exact ⟨[], RSl.nil W⟩
  · simp at hcs; subst hcs
    simp only [if_true] at hmm
    subst hmm
    rw [show Tryz.prog.cellsOf 78 = 4 by kernel_rfl] at hr
    have key : ∀ i, i < len → ∃ q : Rf × Value, W.cell? (x.add (i * 4)) = some (.int .i64 q.1.tp) ∧ W.cell? (x.add (i * 4 + 1)) = some (.int .i64 q.1.sc) ∧ W.cell? (x.add (i * 4 + 2)) = some (.int .i64 q.1.side) ∧ W.cell? (x.add (i * 4 + 3)) = some q.2 ∧ ISl W q.2 q.1.msg := fun i hi => by
      obtain ⟨cs', h1, h2⟩ := hr i (by omega)
      obtain ⟨_, hlen, hcell⟩ := World.cells?_some h1
      obtain ⟨xs, k, _, _, _, hxl, hf⟩ := DataW.trod_struct Tryz.underlying78 h2
      match xs, hxl, cs', hlen with
      | [y0, y1, y2, y3], _, [v0, v1, v2, v3], _ =>
        have g0 := hf 0 _ rfl
        have g1 := hf 1 _ rfl
        have g2 := hf 2 _ rfl
        have g3 := hf 3 _ rfl
        simp [show Tryz.prog.cellsOf 3 = 1 by kernel_rfl, show Tryz.prog.cellsOf 22 = 1 by kernel_rfl] at g0 g1 g2 g3
        have e0 := hcell 0 (by omega)
        have e1 := hcell 1 (by omega)
        have e2 := hcell 2 (by omega)
        have e3 := hcell 3 (by omega)
        rw [Go.Deep.add_add] at e0 e1 e2 e3
        obtain ⟨p0, ep0, _, _⟩ := DataW.trod_int Tryz.underlying3 g0
        obtain ⟨p1, ep1, _, _⟩ := DataW.trod_int Tryz.underlying3 g1
        obtain ⟨p2, ep2, _, _⟩ := DataW.trod_int Tryz.underlying3 g2
        simp at ep0 ep1 ep2
        subst ep0 ep1 ep2
        obtain ⟨l, hl⟩ := isl_trod g3
        exact ⟨(⟨p0, p1, p2, l⟩, v3), by simpa using e0, by simpa using e1, by simpa using e2, by simpa using e3, hl⟩
    haveI : Inhabited (Rf × Value) := ⟨(dRf, .bool false)⟩
    obtain ⟨q, hq⟩ := Go.Deep.choose_lt key
    have hL : ((List.range len).map fun i => (q i).1).length = len := by simp
    have hO : ((List.range len).map fun i => (q i).2).length = len := by simp
    have hgL : ∀ i, i < len → ((List.range len).map fun i => (q i).1).getD i dRf = (q i).1 := fun i hi => by
      rw [List.getD_eq_getElem?_getD]; simp [hi]
    have hgO : ∀ i, i < len → ((List.range len).map fun i => (q i).2).getD i undef = (q i).2 := fun i hi => by
      rw [List.getD_eq_getElem?_getD]; simp [hi]
    have hlen : (rfC ((List.range len).map fun i => (q i).1) ((List.range len).map fun i => (q i).2)).length = len * 4 := by
      rw [rfC_len _ _ (by rw [hL, hO]), hL]
    refine ⟨(List.range len).map fun i => (q i).1, (List.range len).map fun i => (q i).2, by rw [hL, hO], ⟨by rw [hlen, hL], some x, m, by rw [hL], by rw [hL]; exact hl, hm, fun hn => ?_⟩, fun i e mv h1 h2 => ?_⟩
    · rw [hL] at hn
      have h0 := (hq 0 hn).1
      have hx := spot_none h0 (.inl ⟨_, _, rfl⟩)
      have hx0 : (x.add (0 * 4)) = x := by simp [Addr.add]
      rw [hx0] at hx
      refine ⟨x.block, x.off, congrArg some hx, fun j u hu => ?_⟩
      have hj : j < len * 4 := by
        have := (List.getElem?_eq_some_iff.1 hu).1
        rw [hlen] at this
        exact this
      obtain ⟨i, r, hr3, rfl⟩ : ∃ i r, r < 4 ∧ j = i * 4 + r := ⟨j / 4, j % 4, Nat.mod_lt _ (by omega), by omega⟩
      have hi : i < len := by omega
      obtain ⟨k0, k1, k2, k3, _⟩ := hq i hi
      rw [hx, add_off] at k0 k1 k2 k3
      rw [rfC_get _ _ (by rw [hL, hO]) i (by rw [hL]; exact hi) r hr3, hgL i hi, hgO i hi] at hu
      match r, hr3 with
      | 0, _ => simp [Rf.cells] at hu; rw [Nat.add_zero, ← hu]; exact k0
      | 1, _ => simp [Rf.cells] at hu; rw [← hu]; exact k1
      | 2, _ => simp [Rf.cells] at hu; rw [← hu]; exact k2
      | 3, _ => simp [Rf.cells] at hu; rw [← hu]; exact k3
    · have hi : i < len := by have := (List.getElem?_eq_some_iff.1 h1).1; simpa using this
      simp [hi] at h1 h2
      subst h1 h2
      exact (hq i hi).2.2.2.2
theorem c_code : Tryz.prog.cellsOf 47 = 5 := by kernel_rfl
theorem c_part : Tryz.prog.cellsOf 49 = 2 := by kernel_rfl
theorem c_refu : Tryz.prog.cellsOf 54 = 1 := by kernel_rfl
theorem c_entr : Tryz.prog.cellsOf 52 = 1 := by kernel_rfl
theorem c_case : Tryz.prog.cellsOf 61 = 6 := by kernel_rfl
set_option maxRecDepth 100000 in
theorem open_code {r : Reach} {b0 : Nat} {v : Value} {d : DataW H} {p : List MemPlace} (hv : Value.okWide Tryz.prog W r b0 47 v) (h : DataW.Trod enc Tryz.prog W 0 (fun _ => true) held 47 v d p) :
    ∃ (c : CdV) (mv gv : Value), v = c.arg mv gv ∧ c.at W mv gv := by
  obtain ⟨cs, rfl, hsz⟩ := okWide_agg Tryz.underlying47 hv
  obtain ⟨c0, c1, c2, c3, c4, rfl⟩ := array5 (hsz.trans c_code)
  obtain ⟨fuel, hf⟩ := h
  obtain ⟨xs, k, _, _, _, hxl, hff⟩ := DataW.trod_struct Tryz.underlying47 hf
  have g0 := hff 0 _ rfl
  have g1 := hff 1 _ rfl
  have g2 := hff 2 _ rfl
  match xs, hxl with
  | [y0, y1, y2], _ =>
    simp [c_int, c_fld, c_rows, Value.cells] at g0 g1 g2
    obtain ⟨P, M, ml, rfl, rfl, hm⟩ := fld_cells g0
    obtain ⟨N, e0, _, _⟩ := DataW.trod_int Tryz.underlying3 g1
    obtain ⟨rows, hr⟩ := msl_trod g2
    simp at e0
    subst e0
    exact ⟨⟨P, M, ml, N, rows⟩, _, _, rfl, hm, hr⟩
theorem part_cells {fuel : Nat} {c0 c1 : Value} {y : DataW H × List MemPlace} (h : DataW.trod enc Tryz.prog W 0 (fun _ => true) held fuel 49 [c0, c1] = some y) :
    ∃ (tl sl : List Int), ISl W c0 tl ∧ ISl W c1 sl := by
  obtain ⟨xs, k, _, _, _, hxl, hf⟩ := DataW.trod_struct Tryz.underlying49 h
  have g0 := hf 0 _ rfl
  have g1 := hf 1 _ rfl
  match xs, hxl with
  | [y0, y1], _ =>
    simp [c_ints] at g0 g1
    obtain ⟨l, hl⟩ := isl_trod g0
    obtain ⟨l', hl'⟩ := isl_trod g1
    exact ⟨l, l', hl, hl'⟩
theorem array2' {α : Type} {cs : Array α} (h : cs.size = 2) : ∃ c0 c1, cs = #[c0, c1] := by
  obtain ⟨l⟩ := cs
  match l, h with
  | [c0, c1], _ => exact ⟨c0, c1, rfl⟩
set_option maxRecDepth 100000 in
theorem open_part {r : Reach} {b0 : Nat} {v : Value} {d : DataW H} {p : List MemPlace} (hv : Value.okWide Tryz.prog W r b0 49 v) (h : DataW.Trod enc Tryz.prog W 0 (fun _ => true) held 49 v d p) :
    ∃ (tv sv : Value) (tl sl : List Int), v = .agg #[tv, sv] ∧ ISl W tv tl ∧ ISl W sv sl := by
  obtain ⟨cs, rfl, hsz⟩ := okWide_agg Tryz.underlying49 hv
  obtain ⟨c0, c1, rfl⟩ := array2' (hsz.trans c_part)
  obtain ⟨fuel, hf⟩ := h
  obtain ⟨tl, sl, h1, h2⟩ := part_cells (by simpa [Value.cells] using hf)
  exact ⟨_, _, tl, sl, rfl, h1, h2⟩
theorem refu_cells {fuel : Nat} {c0 : Value} {y : DataW H × List MemPlace} (h : DataW.trod enc Tryz.prog W 0 (fun _ => true) held fuel 54 [c0] = some y) : ∃ es, RSl W c0 es := by
  obtain ⟨xs, k, _, _, _, hxl, hf⟩ := DataW.trod_struct Tryz.underlying54 h
  have g0 := hf 0 _ rfl
  match xs, hxl with
  | [y0], _ =>
    simp [c_entr] at g0
    exact rsl_trod g0
set_option maxRecDepth 100000 in
theorem open_case {r : Reach} {b0 : Nat} {v : Value} {d : DataW H} {p : List MemPlace} (hv : Value.okWide Tryz.prog W r b0 61 v) (h : DataW.Trod enc Tryz.prog W 0 (fun _ => true) held 61 v d p) :
    ∃ (tv sv ev pv uv : Value) (tl sl : List Int) (es : List Rf) (pl ul : List Int) (fr : Int), v = .agg #[tv, sv, ev, pv, uv, .int .i64 fr] ∧ ISl W tv tl ∧ ISl W sv sl ∧ RSl W ev es ∧ ISl W pv pl ∧ ISl W uv ul := by
  obtain ⟨cs, rfl, hsz⟩ := okWide_agg Tryz.underlying61 hv
  obtain ⟨c0, c1, c2, c3, c4, c5, rfl⟩ := array6 (hsz.trans c_case)
  obtain ⟨fuel, hf⟩ := h
  obtain ⟨xs, k, _, _, _, hxl, hff⟩ := DataW.trod_struct Tryz.underlying61 hf
  have g0 := hff 0 _ rfl
  have g1 := hff 1 _ rfl
  have g2 := hff 2 _ rfl
  match xs, hxl with
  | [y0, y1, y2], _ =>
    simp [c_part, c_refu, c_mon, Value.cells] at g0 g1 g2
    obtain ⟨tl, sl, h1, h2⟩ := part_cells g0
    obtain ⟨es, h3⟩ := refu_cells g1
    obtain ⟨pl, ul, fr, h4, h5, rfl⟩ := mon_cells g2
    exact ⟨_, _, _, _, _, tl, sl, es, pl, ul, fr, rfl, h1, h2, h3, h4, h5⟩
end
end Go.Proofs.YtgdmlmhpineibaaGreat
