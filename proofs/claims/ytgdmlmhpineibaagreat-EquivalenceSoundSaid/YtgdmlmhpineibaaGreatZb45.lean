/- Plain: the rows of a Code value are determined; the examples of chapter 31, computed. -/
/- What the arguments of chapter 31's laws look like: opened out of their readings. -/
import Derived.Lib.SmallJoins
import Derived.Deep.Matrix
import Derived.Deep.Slices
import Derived.OpenShut
import Derived.ProofKit
import Derived.ChangeOld
import Derived.Test.YtgdmlmhpineibaaGreatZb39
import Derived.Test.YtgdmlmhpineibaaGreatZb42
import Derived.Test.YtgdmlmhpineibaaGreatZb44
namespace Go.Proofs.YtgdmlmhpineibaaGreat
set_option linter.unusedVariables false
set_option linter.unusedSimpArgs false
open Go.RowKit

theorem elO_uniq {p m : Nat} {ml : List Int} {N R R2 : Nat} {a b a1 a2 : Nat → Nat → Int} {piv1 piv2 : List Nat} (hp : 2 ≤ p) (hm : 1 ≤ m) (hab : ∀ x, Sol p m ml N R a x ↔ Sol p m ml N R2 b x) (h1 : ElO p m ml N R a a1 piv1) (h2 : ElO p m ml N R2 b a2 piv2) : rowsL N piv1.length a1 = rowsL N piv2.length a2 ∧ piv1 = piv2 := by
  obtain ⟨c1, x1, y1, z1, s1⟩ := h1
  obtain ⟨c2, x2, y2, z2, s2⟩ := h2
  obtain ⟨e1, e2⟩ := rr_uniq (ml := ml) hp hm ⟨c1, x1, y1, z1⟩ ⟨c2, x2, y2, z2⟩ fun x => ((s1 x).trans (hab x)).trans (s2 x).symm
  subst e1
  refine ⟨List.map_congr_left fun i hi => List.map_congr_left fun j hj => e2 i (List.mem_range.1 hi) j (List.mem_range.1 hj), rfl⟩
theorem elO_self {p m : Nat} {ml : List Int} {N R : Nat} {a : Nat → Nat → Int} {piv : List Nat} {c : Nat} (h : PV p m R N a piv c) (hc : c ≤ N) (hr : piv.length = R) : ElO p m ml N R a a piv := ⟨c, hc, h, .inl hr, fun x => Iff.rfl⟩
/-- Two answers about one Code value are the same. -/
theorem codO_uniq {p m n : Int} {ml : List Int} {rows : List (List Int)} {e e' : Int} (h : CodO p m ml n rows e) (h' : CodO p m ml n rows e') : e = e' := by
  rcases h with ⟨a, rfl⟩ | ⟨a, b, rfl⟩ | ⟨a, b, h⟩ <;> rcases h' with ⟨a', rfl⟩ | ⟨a', b', rfl⟩ | ⟨a', b', h'⟩ <;> first | rfl | contradiction | skip
  rcases h with ⟨c, rfl⟩ | ⟨c, pn, mn, N, piv, a1, rfl, rfl, rfl, hF, _, hE, rfl⟩ <;> rcases h' with ⟨c', rfl⟩ | ⟨c', pn', mn', N', piv', a1', e1, e2, e3, hF', _, hE', rfl⟩ <;> first | rfl | contradiction | skip
  obtain rfl : pn' = pn := by omega
  obtain rfl : mn' = mn := by omega
  obtain rfl : N' = N := by omega
  obtain ⟨p1, m1, e1, e2, hsh, _⟩ := hF
  obtain rfl : p1 = pn' := by omega
  obtain rfl : m1 = mn' := by omega
  rw [(elO_uniq hsh.p2 hsh.m1 (fun _ => Iff.rfl) hE hE').1]
/-- One row, reduced: its Code value passes. -/
theorem pv_one {p m N q : Nat} {r : List Int} (hq : q < N) (h0 : ∀ j, j < N → 0 ≤ r.getD j 0 ∧ r.getD j 0 < ((p ^ m : Nat) : Int)) (h1 : r.getD q 0 = 1) (h2 : ∀ k, k < q → r.getD k 0 = 0) : PV p m 1 N (rowsF [r]) [q] (q + 1) where
  le := by simp
  rng := fun i hi j hj => by
    obtain rfl : i = 0 := by omega
    exact h0 j hj
  lt := fun j q' h => by
    rcases j with _ | j
    · simp at h; omega
    · simp at h
  one := fun j q' h => by
    rcases j with _ | j
    · simp at h; subst h; exact h1
    · simp at h
  zer := fun j q' i h hi hne => by
    rcases j with _ | j
    · omega
    · simp at h
  tail := fun i j h hi _ => by simp at h; omega
  lead := fun j q' k h hk => by
    rcases j with _ | j
    · simp at h; subst h; exact h2 k hk
    · simp at h
  asc := fun i j q' r' hij h h' => by
    rcases j with _ | j
    · omega
    · simp at h'
theorem il_row {N : Nat} {r : List Int} (h : r.length = N) : il N (rowsF [r] 0) = r := by
  subst h
  refine List.ext_getElem? fun j => ?_
  by_cases hj : j < r.length
  · rw [il_get hj, List.getElem?_eq_getElem hj]
    show some (r.getD j 0) = _
    rw [List.getD_eq_getElem?_getD, List.getElem?_eq_getElem hj]; rfl
  · rw [List.getElem?_eq_none (by rw [il_len]; omega), List.getElem?_eq_none (by omega)]
theorem codO_one {p m N q : Nat} {ml : List Int} {r : List Int} {e : Int} (hF : FldB p m ml) (hc : canE p m ml N [r] = 0) (hl : lenE N = 0) (hk : mchkS (p ^ m) N [r] = 0) (hr : r.length = N) (hv : PV p m 1 N (rowsF [r]) [q] (q + 1)) (hq : q < N) (h : CodO p m ml N [r] e) : e = 0 := by
  have hck : chkS p m ml = 0 := by
    apply Classical.byContradiction; intro h; unfold canE at hc; rw [if_pos h] at hc; cases hc
  refine codO_uniq h (.inr (.inr ⟨hck, hl, .inr ⟨hc, p, m, N, [q], rowsF [r], rfl, rfl, rfl, hF, hk, elO_self hv (by omega) rfl, ?_⟩⟩))
  rw [if_pos]
  show [il N (rowsF [r] 0)] = [r]
  rw [il_row hr]
/-- The examples. -/
def eC : CdV := ⟨2, 1, [], 3, [[1, 1, 0]]⟩
def eD : CdV := ⟨2, 1, [], 3, [[0, 1, 1]]⟩
theorem e21 : FldB 2 1 [] := ⟨2, 1, rfl, rfl, ⟨by omega, by omega, by omega, by decide, rfl, by intro x hx; cases hx⟩, by decide, (field_iff (p := 2) (m := 1) (ml := []) ⟨by omega, by omega, by omega, by decide, rfl, by intro x hx; cases hx⟩ (by decide)).2 (.inl rfl)⟩
theorem eC_pv : PV 2 1 1 3 (rowsF [[1, 1, 0]]) [0] 1 := pv_one (by omega) (by decide) rfl (by decide)
theorem eD_pv : PV 2 1 1 3 (rowsF [[0, 1, 1]]) [1] 2 := pv_one (by omega) (by decide) rfl (by decide)
theorem eC_cod {e : Int} (h : CodO 2 1 [] 3 [[1, 1, 0]] e) : e = 0 := codO_one (p := 2) (m := 1) (N := 3) e21 (by decide +kernel) (by decide +kernel) (by decide +kernel) rfl eC_pv (by omega) h
theorem eD_cod {e : Int} (h : CodO 2 1 [] 3 [[0, 1, 1]] e) : e = 0 := codO_one (p := 2) (m := 1) (N := 3) e21 (by decide +kernel) (by decide +kernel) (by decide +kernel) rfl eD_pv (by omega) h
def rfT (x : Rf) : Int × Int × Int × List Int := (x.tp, x.sc, x.side, x.msg)
theorem rfT_inj {l l' : List Rf} (h : l.map rfT = l'.map rfT) : l = l' := by
  induction l generalizing l' with
  | nil => cases l' with
    | nil => rfl
    | cons y t => simp at h
  | cons x s ih => cases l' with
    | nil => simp at h
    | cons y t =>
      rw [List.map_cons, List.map_cons] at h
      injection h with h1 h2
      rw [ih h2]
      cases x; cases y
      simp only [rfT, Prod.mk.injEq] at h1
      obtain ⟨rfl, rfl, rfl, rfl⟩ := h1
      rfl
theorem e_st0 : stE 0 0 (samF eC.p eC.m eC.ml eD.p eD.m eD.ml) eC.n eD.n [] [] (eC.p.toNat ^ eC.m.toNat) = 0 := by decide +kernel
theorem e_st1 : stE 0 0 (samF eC.p eC.m eC.ml eD.p eD.m eD.ml) eC.n eD.n [0] [1] (eC.p.toNat ^ eC.m.toNat) = 0 := by decide +kernel
theorem e_st2 : stE 0 0 (samF eC.p eC.m eC.ml eC.p eC.m eC.ml) eC.n eC.n [0] [1] (eC.p.toNat ^ eC.m.toNat) = 0 := by decide +kernel
theorem e_find : fndE 0 (fndS eC eD [] []) = 0 ∧ (fndM 0 (fndS eC eD [] [])).perm = [1, 2, 0] ∧ (fndM 0 (fndS eC eD [] [])).scale = [1, 1, 1] ∧ (fndM 0 (fndS eC eD [] [])).frob = 0 := by decide +kernel
theorem e_find1 : fndE 0 (fndS eC eD [0] [1]) = 11 := by decide +kernel
theorem e_ref : rftE 0 (fndS eC eD [0] [1]) = 0 := by decide +kernel
theorem e_refL : rftL 0 (fndS eC eD [0] [1]) = [⟨0, 0, 0, [1]⟩] := rfT_inj (by decide +kernel)
theorem e_ref1 : rftE 0 (fndS eC eD [] []) = 11 := by decide +kernel
theorem e_wrd : wrdE 3 1 [] [1, 0] [2, 1] 0 [1, 2] = 0 ∧ wrdL 3 1 [] [1, 0] [2, 1] 0 [1, 2] = [2, 2] := by decide +kernel
theorem e_inv : monS 3 1 [] 2 [1, 0] [2, 1] 0 = 0 ∧ (invM 3 1 [] [1, 0] [2, 1] 0).perm = [1, 0] ∧ (invM 3 1 [] [1, 0] [2, 1] 0).scale = [1, 2] ∧ (invM 3 1 [] [1, 0] [2, 1] 0).frob = 0 := by decide +kernel
theorem e_cmp : cmpE 3 1 [] [1, 0] [2, 1] 0 [1, 0] [1, 2] 0 = 0 ∧ (cmpM 3 1 [] [1, 0] [2, 1] 0 [1, 0] [1, 2] 0).perm = [0, 1] ∧ (cmpM 3 1 [] [1, 0] [2, 1] 0 [1, 0] [1, 2] 0).scale = [1, 1] ∧ (cmpM 3 1 [] [1, 0] [2, 1] 0 [1, 0] [1, 2] 0).frob = 0 := by decide +kernel
theorem e_app : monS 2 1 [] 3 [1, 2, 0] [1, 1, 1] 0 = 0 ∧ imA 2 1 [] [1, 2, 0] [1, 1, 1] 0 3 [[1, 1, 0]] = [[0, 1, 1]] := by decide +kernel
theorem e_chk : ckE 0 (flS eC eD [⟨0, 0, 0, [1]⟩] [0] [1]) [⟨0, 0, 0, [1]⟩] = 0 := by decide +kernel
theorem e_chk1 : ckE 0 (flS eC eC [⟨0, 0, 0, [1]⟩] [0] [1]) [⟨0, 0, 0, [1]⟩] = 13 := by decide +kernel
end Go.Proofs.YtgdmlmhpineibaaGreat
namespace Go.Proofs.YtgdmlmhpineibaaGreat
set_option linter.unusedVariables false
set_option linter.unusedSimpArgs false
open Go.RowKit Go.ChangeShapes Go.WideShapes Go.ChangeAt

section
variable {H : Type} {enc : TypeId × Value → H} {W : World} {held : Bool}

theorem spot_none {x : Addr} {w : World} {u : Value} (h : w.cell? x = some u) (hu : (∃ k n, u = .int k n) ∨ ∃ a l c, u = .slice a l c) : x = ⟨x.block, x.off, none⟩ := by
  have hs : x.spot = none := by
    rcases hs : x.spot with _ | s
    · rfl
    · exfalso
      simp only [World.cell?, hs] at h
      split at h
      · rcases hu with ⟨k, n, rfl⟩ | ⟨a, l, c, rfl⟩ <;> simp at h
      · simp at h
  cases x; simp_all
theorem add_off (b o j : Nat) : (⟨b, o, none⟩ : Addr).add j = ⟨b, o + j, none⟩ := by unfold Addr.add; split <;> simp_all
theorem isl_cells {w : World} {a : Option Addr} {len cap : Nat} {zs : List Int} (h1 : len ≤ cap) (h2 : cap ≤ maxLen) (h3 : zs.length = cap) (h4 : a = none → cap = 0) (h5 : ∀ x, a = some x → ∀ i, i < cap → w.cell? (x.add i) = some (.int .i64 (zs.getD i 0))) :
    ISl w (.slice a len cap) (zs.take len) := by
  have hl : (zs.take len).length = len := by rw [List.length_take]; omega
  unfold ISl
  rw [hl]
  refine ⟨by rw [ints_length]; omega, a, cap, rfl, h1, h2, fun hn => ?_⟩
  rcases a with _ | x
  · have := h4 rfl; omega
  · have h0 := h5 x rfl 0 (by omega)
    have hx := spot_none h0 (.inl ⟨_, _, rfl⟩)
    have hx0 : (x.add 0) = x := by simp [Addr.add]
    rw [hx0] at hx
    refine ⟨x.block, x.off, congrArg some hx, fun j u hu => ?_⟩
    simp only [ints, List.getElem?_map, List.getElem?_take] at hu
    split at hu
    · have h6 := h5 x rfl j (by omega)
      rw [hx, add_off] at h6
      rw [h6]
      obtain ⟨y, hy, rfl⟩ := Option.map_eq_some_iff.1 hu
      rw [List.getD_eq_getElem?_getD, hy]; rfl
    · cases hu
theorem isl_trod {fuel : Nat} {v : Value} {y : DataW H × List MemPlace} (h : DataW.trod enc Tryz.prog W 0 (fun _ => true) held fuel 22 [v] = some y) : ∃ l, ISl W v l := by
  rcases open_ints Tryz.underlying22 Tryz.underlying3 (by kernel_rfl) h with ⟨hcs, _⟩ | ⟨x, l, c, zs, hcs, _, hl, hm, hz, _, hcell, hwz⟩
  · simp at hcs; subst hcs
    exact ⟨[], Sl.nil W 1⟩
  · simp at hcs; subst hcs
    simp only [if_true] at hz
    exact ⟨_, isl_cells hl hm hz (fun h => by cases h) (fun x' hx i hi => by injection hx with hx; subst hx; exact hcell i (by omega))⟩
theorem msl_trod {fuel : Nat} {v : Value} {y : DataW H × List MemPlace} (h : DataW.trod enc Tryz.prog W 0 (fun _ => true) held fuel 45 [v] = some y) : ∃ rows, MSl W v rows := by
  rcases Go.Deep.open_int_rows Tryz.underlying45 Tryz.underlying22 Tryz.underlying3 (by kernel_rfl) (by kernel_rfl) h with ⟨hcs, _⟩ | ⟨x, len, cap, A, L, C, Z, hcs, _, hl, hm, _, hr⟩
  · simp at hcs; subst hcs
    exact ⟨[], [], Sl.nil W 1, fun i r u hr => by simp at hr⟩
  · simp at hcs; subst hcs
    refine ⟨(List.range len).map fun r => (Z r).take (L r), (List.range len).map fun r => .slice (A r) (L r) (C r), ?_, fun i r u h1 h2 => ?_⟩
    · refine ⟨by simp, some x, cap, by simp, by simpa using hl, hm, fun hn => ?_⟩
      simp at hn
      have h0 := (hr 0 (by omega)).1
      have hx := spot_none h0 (.inr ⟨_, _, _, rfl⟩)
      have hx0 : (x.add 0) = x := by simp [Addr.add]
      rw [hx0] at hx
      refine ⟨x.block, x.off, congrArg some hx, fun j u hu => ?_⟩
      simp only [List.getElem?_map] at hu
      obtain ⟨k, hk, rfl⟩ := Option.map_eq_some_iff.1 hu
      have hj : j < len := by have := (List.getElem?_eq_some_iff.1 hk).1; simpa using this
      have e : k = j := by simp [hj] at hk; exact hk.symm
      subst e
      have := (hr k (by omega)).1
      rw [hx, add_off] at this
      exact this
    · have hi : i < len := by have := (List.getElem?_eq_some_iff.1 h1).1; simpa using this
      simp [hi] at h1 h2
      subst h1 h2
      obtain ⟨_, a1, a2, a3, _, a4, a5⟩ := hr i (by omega)
      exact isl_cells a1 a2 a3 a4 (fun x' hx j hj => (a5 x' hx).2 j hj)
theorem c_int : Tryz.prog.cellsOf 3 = 1 := by kernel_rfl
theorem c_ints : Tryz.prog.cellsOf 22 = 1 := by kernel_rfl
theorem c_rows : Tryz.prog.cellsOf 45 = 1 := by kernel_rfl
theorem c_fld : Tryz.prog.cellsOf 24 = 3 := by kernel_rfl
theorem c_mon : Tryz.prog.cellsOf 26 = 3 := by kernel_rfl
theorem fld_cells {fuel : Nat} {c0 c1 c2 : Value} {y : DataW H × List MemPlace} (h : DataW.trod enc Tryz.prog W 0 (fun _ => true) held fuel 24 [c0, c1, c2] = some y) :
    ∃ (P M : Int) (ml : List Int), c0 = .int .i64 P ∧ c1 = .int .i64 M ∧ ISl W c2 ml := by
  obtain ⟨xs, k, _, _, _, hxl, hf⟩ := DataW.trod_struct Tryz.underlying24 h
  have g0 := hf 0 _ rfl
  have g1 := hf 1 _ rfl
  have g2 := hf 2 _ rfl
  match xs, hxl with
  | [y0, y1, y2], _ =>
    simp [c_int, c_ints] at g0 g1 g2
    obtain ⟨P, e0, _, _⟩ := DataW.trod_int Tryz.underlying3 g0
    obtain ⟨M, e1, _, _⟩ := DataW.trod_int Tryz.underlying3 g1
    obtain ⟨l, hl⟩ := isl_trod g2
    simp at e0 e1
    exact ⟨P, M, l, e0, e1, hl⟩
theorem mon_cells {fuel : Nat} {c0 c1 c2 : Value} {y : DataW H × List MemPlace} (h : DataW.trod enc Tryz.prog W 0 (fun _ => true) held fuel 26 [c0, c1, c2] = some y) :
    ∃ (pl sl : List Int) (fr : Int), ISl W c0 pl ∧ ISl W c1 sl ∧ c2 = .int .i64 fr := by
  obtain ⟨xs, k, _, _, _, hxl, hf⟩ := DataW.trod_struct Tryz.underlying26 h
  have g0 := hf 0 _ rfl
  have g1 := hf 1 _ rfl
  have g2 := hf 2 _ rfl
  match xs, hxl with
  | [y0, y1, y2], _ =>
    simp [c_int, c_ints] at g0 g1 g2
    obtain ⟨P, e0, _, _⟩ := DataW.trod_int Tryz.underlying3 g2
    obtain ⟨l, hl⟩ := isl_trod g0
    obtain ⟨l', hl'⟩ := isl_trod g1
    simp at e0
    exact ⟨l, l', P, hl, hl', e0⟩
set_option maxRecDepth 100000 in
theorem okWide_agg {r : Reach} {b0 : Nat} {t : TypeId} {fs : Array Field} {v : Value} (ht : Tryz.prog.underlying t = some (.struct fs)) (h : Value.okWide Tryz.prog W r b0 t v) : ∃ cs, v = .agg cs ∧ cs.size = Tryz.prog.cellsOf t := by
  simp only [Value.okWide, ht] at h
  obtain ⟨cs, h1, h2, _⟩ := h
  exact ⟨cs, h1, h2⟩
set_option maxRecDepth 100000 in
theorem okWide_array {r : Reach} {b0 : Nat} {t e : TypeId} {n : Nat} {v : Value} (ht : Tryz.prog.underlying t = some (.array n e)) (h : Value.okWide Tryz.prog W r b0 t v) : ∃ cs, v = .agg cs ∧ cs.size = Tryz.prog.cellsOf t := by
  simp only [Value.okWide, ht] at h
  obtain ⟨cs, h1, h2, _⟩ := h
  exact ⟨cs, h1, h2⟩
set_option maxRecDepth 100000 in
theorem open_field {r : Reach} {b0 : Nat} {v : Value} {d : DataW H} {p : List MemPlace} (hv : Value.okWide Tryz.prog W r b0 24 v) (h : DataW.Trod enc Tryz.prog W 0 (fun _ => true) held 24 v d p) :
    ∃ (P M : Int) (mv : Value) (ml : List Int), v = .agg #[.int .i64 P, .int .i64 M, mv] ∧ ISl W mv ml := by
  obtain ⟨cs, rfl, hsz⟩ := okWide_agg Tryz.underlying24 hv
  obtain ⟨c0, c1, c2, rfl⟩ := Go.Joins.array3 (hsz.trans c_fld)
  obtain ⟨fuel, hf⟩ := h
  obtain ⟨P, M, ml, rfl, rfl, hl⟩ := fld_cells (by simpa [Value.cells] using hf)
  exact ⟨P, M, _, ml, rfl, hl⟩
set_option maxRecDepth 100000 in
theorem open_mon {r : Reach} {b0 : Nat} {v : Value} {d : DataW H} {p : List MemPlace} (hv : Value.okWide Tryz.prog W r b0 26 v) (h : DataW.Trod enc Tryz.prog W 0 (fun _ => true) held 26 v d p) :
    ∃ (pv sv : Value) (pl sl : List Int) (fr : Int), v = .agg #[pv, sv, .int .i64 fr] ∧ ISl W pv pl ∧ ISl W sv sl := by
  obtain ⟨cs, rfl, hsz⟩ := okWide_agg Tryz.underlying26 hv
  obtain ⟨c0, c1, c2, rfl⟩ := Go.Joins.array3 (hsz.trans c_mon)
  obtain ⟨fuel, hf⟩ := h
  obtain ⟨pl, sl, fr, h1, h2, rfl⟩ := mon_cells (by simpa [Value.cells] using hf)
  exact ⟨_, _, pl, sl, fr, rfl, h1, h2⟩
theorem array6 {α : Type} {cs : Array α} (h : cs.size = 6) : ∃ c0 c1 c2 c3 c4 c5, cs = #[c0, c1, c2, c3, c4, c5] := by
  obtain ⟨l⟩ := cs
  match l, h with
  | [c0, c1, c2, c3, c4, c5], _ => exact ⟨c0, c1, c2, c3, c4, c5, rfl⟩
theorem array5 {α : Type} {cs : Array α} (h : cs.size = 5) : ∃ c0 c1 c2 c3 c4, cs = #[c0, c1, c2, c3, c4] := by
  obtain ⟨l⟩ := cs
  match l, h with
  | [c0, c1, c2, c3, c4], _ => exact ⟨c0, c1, c2, c3, c4, rfl⟩
set_option maxRecDepth 100000 in
theorem open_mon2 {r : Reach} {b0 : Nat} {v : Value} {d : DataW H} {p : List MemPlace} (hv : Value.okWide Tryz.prog W r b0 41 v) (h : DataW.Trod enc Tryz.prog W 0 (fun _ => true) held 41 v d p) :
    ∃ (pv sv : Value) (pl sl : List Int) (fr : Int) (qv tv : Value) (ql tl : List Int) (fs : Int), v = .agg #[pv, sv, .int .i64 fr, qv, tv, .int .i64 fs] ∧ ISl W pv pl ∧ ISl W sv sl ∧ ISl W qv ql ∧ ISl W tv tl := by
  obtain ⟨cs, rfl, hsz⟩ := okWide_array Tryz.underlying41 hv
  rw [show Tryz.prog.cellsOf 41 = 6 by kernel_rfl] at hsz
  obtain ⟨c0, c1, c2, c3, c4, c5, rfl⟩ := array6 hsz
  obtain ⟨fuel, hf⟩ := h
  obtain ⟨xs, m, _, _, _, hl, hi⟩ := DataW.trod_array Tryz.underlying41 hf
  have h0 := hi 0 (by omega)
  have h1 := hi 1 (by omega)
  rw [c_mon, List.getElem?_eq_getElem (by omega)] at h0 h1
  obtain ⟨pl, sl, fr, p1, p2, rfl⟩ := mon_cells (c0 := c0) (c1 := c1) (c2 := c2) (by simpa [Value.cells] using h0)
  obtain ⟨ql, tl, fs, p3, p4, rfl⟩ := mon_cells (c0 := c3) (c1 := c4) (c2 := c5) (by simpa [Value.cells] using h1)
  exact ⟨_, _, pl, sl, fr, _, _, ql, tl, fs, rfl, p1, p2, p3, p4⟩
theorem open_list {v : Value} {d : DataW H} {p : List MemPlace} (h : DataW.Trod enc Tryz.prog W 0 (fun _ => true) held 22 v d p) (hv : ∃ a l c, v = .slice a l c) : ∃ l, ISl W v l := by
  obtain ⟨fuel, hf⟩ := h
  obtain ⟨a, l, c, rfl⟩ := hv
  exact isl_trod (by simpa [Value.cells] using hf)
end
end Go.Proofs.YtgdmlmhpineibaaGreat
