/- What the arguments of a law look like: opened out of their readings. -/
import Derived.Test.YtpphaicbdeeacaaMatC
import Derived.Lib.SmallJoins
import Derived.Deep.Matrix
import Derived.OpenShut
import Derived.ProofKit
import Derived.ChangeOld
namespace Go.Proofs.Ytpphaicbdeeacaa
set_option linter.unusedVariables false
set_option linter.unusedSimpArgs false
open Go.RowKit Go.ChangeShapes Go.WideShapes Go.ChangeAt

section
variable {H : Type} {enc : TypeId × Value → H} {W : World} {held : Bool}

theorem spot_none {x : Addr} {w : World} {u : Value} (h : w.cell? x = some u) (hu : (∃ k n, u = .int k n) ∨ ∃ a l c, u = .slice a l c) : x = ⟨x.block, x.off, none⟩ := by
  have hs : x.spot = none := by
    rcases hs : x.spot with _ | s
    · rfl
    · exfalso
      simp only [World.cell?, hs] at h
      split at h
      · rcases hu with ⟨k, n, rfl⟩ | ⟨a, l, c, rfl⟩ <;> simp at h
      · simp at h
  cases x; simp_all

theorem add_off (b o j : Nat) : (⟨b, o, none⟩ : Addr).add j = ⟨b, o + j, none⟩ := by unfold Addr.add; split <;> simp_all

theorem isl_cells {w : World} {a : Option Addr} {len cap : Nat} {zs : List Int} (h1 : len ≤ cap) (h2 : cap ≤ maxLen) (h3 : zs.length = cap) (h4 : a = none → cap = 0) (h5 : ∀ x, a = some x → ∀ i, i < cap → w.cell? (x.add i) = some (.int .i64 (zs.getD i 0))) :
    ISl w (.slice a len cap) (zs.take len) := by
  have hl : (zs.take len).length = len := by rw [List.length_take]; omega
  unfold ISl
  rw [hl]
  refine ⟨by rw [ints_length]; omega, a, cap, rfl, h1, h2, fun hn => ?_⟩
  rcases a with _ | x
  · have := h4 rfl; omega
  · have h0 := h5 x rfl 0 (by omega)
    have hx := spot_none h0 (.inl ⟨_, _, rfl⟩)
    have hx0 : (x.add 0) = x := by simp [Addr.add]
    rw [hx0] at hx
    refine ⟨x.block, x.off, congrArg some hx, fun j u hu => ?_⟩
    simp only [ints, List.getElem?_map, List.getElem?_take] at hu
    split at hu
    · have h6 := h5 x rfl j (by omega)
      rw [hx, add_off] at h6
      rw [h6]
      obtain ⟨y, hy, rfl⟩ := Option.map_eq_some_iff.1 hu
      rw [List.getD_eq_getElem?_getD, hy]; rfl
    · cases hu

theorem isl_trod {fuel : Nat} {v : Value} {y : DataW H × List MemPlace} (h : DataW.trod enc Try.prog W 0 (fun _ => true) held fuel 22 [v] = some y) : ∃ l, ISl W v l := by
  rcases open_ints Try.underlying22 Try.underlying3 (by kernel_rfl) h with ⟨hcs, _⟩ | ⟨x, l, c, zs, hcs, _, hl, hm, hz, _, hcell, hwz⟩
  · simp at hcs; subst hcs
    exact ⟨[], Sl.nil W 1⟩
  · simp at hcs; subst hcs
    simp only [if_true] at hz
    exact ⟨_, isl_cells hl hm hz (fun h => by cases h) (fun x' hx i hi => by injection hx with hx; subst hx; exact hcell i (by omega))⟩

theorem msl_trod {fuel : Nat} {v : Value} {y : DataW H × List MemPlace} (h : DataW.trod enc Try.prog W 0 (fun _ => true) held fuel 25 [v] = some y) : ∃ rows, MSl W v rows := by
  rcases Go.Deep.open_int_rows Try.underlying25 Try.underlying22 Try.underlying3 (by kernel_rfl) (by kernel_rfl) h with ⟨hcs, _⟩ | ⟨x, len, cap, A, L, C, Z, hcs, _, hl, hm, _, hr⟩
  · simp at hcs; subst hcs
    exact ⟨[], [], Sl.nil W 1, fun i r u hr => by simp at hr⟩
  · simp at hcs; subst hcs
    refine ⟨(List.range len).map fun r => (Z r).take (L r), (List.range len).map fun r => .slice (A r) (L r) (C r), ?_, fun i r u h1 h2 => ?_⟩
    · refine ⟨by simp, some x, cap, by simp, by simpa using hl, hm, fun hn => ?_⟩
      simp at hn
      have h0 := (hr 0 (by omega)).1
      have hx := spot_none h0 (.inr ⟨_, _, _, rfl⟩)
      have hx0 : (x.add 0) = x := by simp [Addr.add]
      rw [hx0] at hx
      refine ⟨x.block, x.off, congrArg some hx, fun j u hu => ?_⟩
      simp only [List.getElem?_map] at hu
      obtain ⟨k, hk, rfl⟩ := Option.map_eq_some_iff.1 hu
      have hj : j < len := by have := (List.getElem?_eq_some_iff.1 hk).1; simpa using this
      have e : k = j := by simp [hj] at hk; exact hk.symm
      subst e
      have := (hr k (by omega)).1
      rw [hx, add_off] at this
      exact this
    · have hi : i < len := by have := (List.getElem?_eq_some_iff.1 h1).1; simpa using this
      simp [hi] at h1 h2
      subst h1 h2
      obtain ⟨_, a1, a2, a3, _, a4, a5⟩ := hr i (by omega)
      exact isl_cells a1 a2 a3 a4 (fun x' hx j hj => (a5 x' hx).2 j hj)

set_option maxRecDepth 100000 in
theorem open_field {r : Reach} {b0 : Nat} {v : Value} {d : DataW H} {p : List MemPlace} (hv : Value.okWide Try.prog W r b0 24 v) (h : DataW.Trod enc Try.prog W 0 (fun _ => true) held 24 v d p) :
    ∃ (P M : Int) (mv : Value) (ml : List Int), v = .agg #[.int .i64 P, .int .i64 M, mv] ∧ ISl W mv ml := by
  obtain ⟨v0, v1, v2, y0, y1, y2, n, rfl, _, _, h0, h1, h2⟩ := Go.Joins.open_agg3 Try.underlying24 (by kernel_rfl) (by kernel_rfl) hv h
  obtain ⟨P, e0, _, _⟩ := DataW.trod_int Try.underlying3 h0
  obtain ⟨M, e1, _, _⟩ := DataW.trod_int Try.underlying3 h1
  obtain ⟨l, hl⟩ := isl_trod h2
  simp at e0 e1
  exact ⟨P, M, v2, l, by rw [e0, e1], hl⟩
set_option maxRecDepth 100000 in
theorem open_matrix {r : Reach} {b0 : Nat} {v : Value} {d : DataW H} {p : List MemPlace} (hv : Value.okWide Try.prog W r b0 27 v) (h : DataW.Trod enc Try.prog W 0 (fun _ => true) held 27 v d p) :
    ∃ (c : Int) (u : Value) (rows : List (List Int)), v = .agg #[.int .i64 c, u] ∧ MSl W u rows := by
  obtain ⟨v0, v1, y0, y1, n, rfl, _, _, h0, h1⟩ := Go.Joins.open_agg2 Try.underlying27 (by kernel_rfl) (by kernel_rfl) hv h
  obtain ⟨P, e0, _, _⟩ := DataW.trod_int Try.underlying3 h0
  obtain ⟨l, hl⟩ := msl_trod h1
  simp at e0
  exact ⟨P, v1, l, by rw [e0], hl⟩
set_option maxRecDepth 100000 in
theorem open_tanner {r : Reach} {b0 : Nat} {v : Value} {d : DataW H} {p : List MemPlace} (hv : Value.okWide Try.prog W r b0 31 v) (h : DataW.Trod enc Try.prog W 0 (fun _ => true) held 31 v d p) :
    ∃ (c : Int) (u : Value) (rows : List (List Int)), v = .agg #[.int .i64 c, u] ∧ MSl W u rows := by
  obtain ⟨v0, v1, y0, y1, n, rfl, _, _, h0, h1⟩ := Go.Joins.open_agg2 Try.underlying31 (by kernel_rfl) (by kernel_rfl) hv h
  obtain ⟨P, e0, _, _⟩ := DataW.trod_int Try.underlying3 h0
  obtain ⟨l, hl⟩ := msl_trod h1
  simp at e0
  exact ⟨P, v1, l, by rw [e0], hl⟩
set_option maxRecDepth 100000 in
theorem okWide_array {r : Reach} {b0 : Nat} {t e : TypeId} {n : Nat} {v : Value} (ht : Try.prog.underlying t = some (.array n e)) (h : Value.okWide Try.prog W r b0 t v) : ∃ cs, v = .agg cs ∧ cs.size = Try.prog.cellsOf t := by
  simp only [Value.okWide, ht] at h
  obtain ⟨cs, h1, h2, _⟩ := h
  exact ⟨cs, h1, h2⟩
set_option maxRecDepth 100000 in
theorem open_two {r : Reach} {b0 : Nat} {v : Value} {d : DataW H} {p : List MemPlace} (hv : Value.okWide Try.prog W r b0 48 v) (h : DataW.Trod enc Try.prog W 0 (fun _ => true) held 48 v d p) :
    ∃ (u0 u1 : Value) (l0 l1 : List Int), v = .agg #[u0, u1] ∧ ISl W u0 l0 ∧ ISl W u1 l1 := by
  obtain ⟨cs, rfl, hsz⟩ := okWide_array Try.underlying48 hv
  rw [show Try.prog.cellsOf 48 = 2 by kernel_rfl] at hsz
  obtain ⟨c0, c1, rfl⟩ := Go.Joins.array2 hsz
  obtain ⟨fuel, hf⟩ := h
  obtain ⟨xs, m, _, _, _, hl, hi⟩ := DataW.trod_array Try.underlying48 hf
  have h0 := hi 0 (by omega)
  have h1 := hi 1 (by omega)
  rw [show Try.prog.cellsOf 22 = 1 by kernel_rfl, List.getElem?_eq_getElem (by omega)] at h0 h1
  obtain ⟨l0, i0⟩ := isl_trod (v := c0) (by simpa [Value.cells] using h0)
  obtain ⟨l1, i1⟩ := isl_trod (v := c1) (by simpa [Value.cells] using h1)
  exact ⟨c0, c1, l0, l1, rfl, i0, i1⟩
set_option maxRecDepth 100000 in
theorem open_three {r : Reach} {b0 : Nat} {v : Value} {d : DataW H} {p : List MemPlace} (hv : Value.okWide Try.prog W r b0 53 v) (h : DataW.Trod enc Try.prog W 0 (fun _ => true) held 53 v d p) :
    ∃ (u0 u1 u2 : Value) (l0 l1 l2 : List Int), v = .agg #[u0, u1, u2] ∧ ISl W u0 l0 ∧ ISl W u1 l1 ∧ ISl W u2 l2 := by
  obtain ⟨cs, rfl, hsz⟩ := okWide_array Try.underlying53 hv
  rw [show Try.prog.cellsOf 53 = 3 by kernel_rfl] at hsz
  obtain ⟨c0, c1, c2, rfl⟩ := Go.Joins.array3 hsz
  obtain ⟨fuel, hf⟩ := h
  obtain ⟨xs, m, _, _, _, hl, hi⟩ := DataW.trod_array Try.underlying53 hf
  have h0 := hi 0 (by omega)
  have h1 := hi 1 (by omega)
  have h2 := hi 2 (by omega)
  rw [show Try.prog.cellsOf 22 = 1 by kernel_rfl, List.getElem?_eq_getElem (by omega)] at h0 h1 h2
  obtain ⟨l0, i0⟩ := isl_trod (v := c0) (by simpa [Value.cells] using h0)
  obtain ⟨l1, i1⟩ := isl_trod (v := c1) (by simpa [Value.cells] using h1)
  obtain ⟨l2, i2⟩ := isl_trod (v := c2) (by simpa [Value.cells] using h2)
  exact ⟨c0, c1, c2, l0, l1, l2, rfl, i0, i1, i2⟩
set_option maxRecDepth 100000 in
theorem open_bits {r : Reach} {b0 : Nat} {v : Value} {d : DataW H} {p : List MemPlace} (hv : Value.okWide Try.prog W r b0 58 v) (h : DataW.Trod enc Try.prog W 0 (fun _ => true) held 58 v d p) :
    ∃ (b0 b1 b2 : Int), v = .agg #[.int .u32 b0, .int .u32 b1, .int .u32 b2] ∧ (Lit.int .u32 b0).wf = true ∧ (Lit.int .u32 b1).wf = true ∧ (Lit.int .u32 b2).wf = true := by
  obtain ⟨cs, rfl, hsz⟩ := okWide_array Try.underlying58 hv
  rw [show Try.prog.cellsOf 58 = 3 by kernel_rfl] at hsz
  obtain ⟨c0, c1, c2, rfl⟩ := Go.Joins.array3 hsz
  obtain ⟨fuel, hf⟩ := h
  obtain ⟨xs, m, _, _, _, hl, hi⟩ := DataW.trod_array Try.underlying58 hf
  have h0 := hi 0 (by omega)
  have h1 := hi 1 (by omega)
  have h2 := hi 2 (by omega)
  rw [show Try.prog.cellsOf 57 = 1 by kernel_rfl, List.getElem?_eq_getElem (by omega)] at h0 h1 h2
  obtain ⟨n0, e0, _, w0⟩ := DataW.trod_int Try.underlying57 h0
  obtain ⟨n1, e1, _, w1⟩ := DataW.trod_int Try.underlying57 h1
  obtain ⟨n2, e2, _, w2⟩ := DataW.trod_int Try.underlying57 h2
  simp [Value.cells] at e0 e1 e2
  exact ⟨n0, n1, n2, by rw [e0, e1, e2], w0, w1, w2⟩
theorem open_list {v : Value} {d : DataW H} {p : List MemPlace} (h : DataW.Trod enc Try.prog W 0 (fun _ => true) held 22 v d p) (hv : ∃ a l c, v = .slice a l c) : ∃ l, ISl W v l := by
  obtain ⟨fuel, hf⟩ := h
  obtain ⟨a, l, c, rfl⟩ := hv
  exact isl_trod (by simpa [Value.cells] using hf)
end
end Go.Proofs.Ytpphaicbdeeacaa
