/- What the arguments of a law look like: opened out of their readings. -/
/- An argument that is a chain: opened out of its reading. -/
import Derived.Lib.SmallJoins
import Derived.Deep.Matrix
import Derived.OpenShut
import Derived.ProofKit
import Derived.ChangeOld
import Derived.Deep.Slices
import Derived.Test.YtgfdhclpffakfaaGreatZa20
namespace Go.Proofs.YtgfdhclpffakfaaGreat
set_option linter.unusedVariables false
set_option linter.unusedSimpArgs false
open Go.RowKit Go.ChangeShapes Go.WideShapes Go.ChangeAt

section
variable {H : Type} {enc : TypeId × Value → H} {W : World} {held : Bool}

theorem spot_none {x : Addr} {w : World} {u : Value} (h : w.cell? x = some u) (hu : (∃ k n, u = .int k n) ∨ ∃ a l c, u = .slice a l c) : x = ⟨x.block, x.off, none⟩ := by
  have hs : x.spot = none := by
    rcases hs : x.spot with _ | s
    · rfl
    · exfalso
      simp only [World.cell?, hs] at h
      split at h
      · rcases hu with ⟨k, n, rfl⟩ | ⟨a, l, c, rfl⟩ <;> simp at h
      · simp at h
  cases x; simp_all
theorem add_off (b o j : Nat) : (⟨b, o, none⟩ : Addr).add j = ⟨b, o + j, none⟩ := by unfold Addr.add; split <;> simp_all
theorem isl_cells {w : World} {a : Option Addr} {len cap : Nat} {zs : List Int} (h1 : len ≤ cap) (h2 : cap ≤ maxLen) (h3 : zs.length = cap) (h4 : a = none → cap = 0) (h5 : ∀ x, a = some x → ∀ i, i < cap → w.cell? (x.add i) = some (.int .i64 (zs.getD i 0))) :
    ISl w (.slice a len cap) (zs.take len) := by
  have hl : (zs.take len).length = len := by rw [List.length_take]; omega
  unfold ISl
  rw [hl]
  refine ⟨by rw [ints_length]; omega, a, cap, rfl, h1, h2, fun hn => ?_⟩
  rcases a with _ | x
  · have := h4 rfl; omega
  · have h0 := h5 x rfl 0 (by omega)
    have hx := spot_none h0 (.inl ⟨_, _, rfl⟩)
    have hx0 : (x.add 0) = x := by simp [Addr.add]
    rw [hx0] at hx
    refine ⟨x.block, x.off, congrArg some hx, fun j u hu => ?_⟩
    simp only [ints, List.getElem?_map, List.getElem?_take] at hu
    split at hu
    · have h6 := h5 x rfl j (by omega)
      rw [hx, add_off] at h6
      rw [h6]
      obtain ⟨y, hy, rfl⟩ := Option.map_eq_some_iff.1 hu
      rw [List.getD_eq_getElem?_getD, hy]; rfl
    · cases hu
theorem isl_trod {fuel : Nat} {v : Value} {y : DataW H × List MemPlace} (h : DataW.trod enc Tryz.prog W 0 (fun _ => true) held fuel 32 [v] = some y) : ∃ l, ISl W v l := by
  rcases open_ints Tryz.underlying32 Tryz.underlying3 (by kernel_rfl) h with ⟨hcs, _⟩ | ⟨x, l, c, zs, hcs, _, hl, hm, hz, _, hcell, hwz⟩
  · simp at hcs; subst hcs
    exact ⟨[], Sl.nil W 1⟩
  · simp at hcs; subst hcs
    simp only [if_true] at hz
    exact ⟨_, isl_cells hl hm hz (fun h => by cases h) (fun x' hx i hi => by injection hx with hx; subst hx; exact hcell i (by omega))⟩
theorem msl_trod {fuel : Nat} {v : Value} {y : DataW H × List MemPlace} (h : DataW.trod enc Tryz.prog W 0 (fun _ => true) held fuel 46 [v] = some y) : ∃ rows, MSl W v rows := by
  rcases Go.Deep.open_int_rows Tryz.underlying46 Tryz.underlying32 Tryz.underlying3 (by kernel_rfl) (by kernel_rfl) h with ⟨hcs, _⟩ | ⟨x, len, cap, A, L, C, Z, hcs, _, hl, hm, _, hr⟩
  · simp at hcs; subst hcs
    exact ⟨[], [], Sl.nil W 1, fun i r u hr => by simp at hr⟩
  · simp at hcs; subst hcs
    refine ⟨(List.range len).map fun r => (Z r).take (L r), (List.range len).map fun r => .slice (A r) (L r) (C r), ?_, fun i r u h1 h2 => ?_⟩
    · refine ⟨by simp, some x, cap, by simp, by simpa using hl, hm, fun hn => ?_⟩
      simp at hn
      have h0 := (hr 0 (by omega)).1
      have hx := spot_none h0 (.inr ⟨_, _, _, rfl⟩)
      have hx0 : (x.add 0) = x := by simp [Addr.add]
      rw [hx0] at hx
      refine ⟨x.block, x.off, congrArg some hx, fun j u hu => ?_⟩
      simp only [List.getElem?_map] at hu
      obtain ⟨k, hk, rfl⟩ := Option.map_eq_some_iff.1 hu
      have hj : j < len := by have := (List.getElem?_eq_some_iff.1 hk).1; simpa using this
      have e : k = j := by simp [hj] at hk; exact hk.symm
      subst e
      have := (hr k (by omega)).1
      rw [hx, add_off] at this
      exact this
    · have hi : i < len := by have := (List.getElem?_eq_some_iff.1 h1).1; simpa using this
      simp [hi] at h1 h2
      subst h1 h2
      obtain ⟨_, a1, a2, a3, _, a4, a5⟩ := hr i (by omega)
      exact isl_cells a1 a2 a3 a4 (fun x' hx j hj => (a5 x' hx).2 j hj)
theorem open_list {v : Value} {d : DataW H} {p : List MemPlace} (h : DataW.Trod enc Tryz.prog W 0 (fun _ => true) held 32 v d p) (hv : ∃ a l c, v = .slice a l c) : ∃ l, ISl W v l := by
  obtain ⟨fuel, hf⟩ := h
  obtain ⟨a, l, c, rfl⟩ := hv
  exact isl_trod (by simpa [Value.cells] using hf)
theorem open_rows {v : Value} {d : DataW H} {p : List MemPlace} (h : DataW.Trod enc Tryz.prog W 0 (fun _ => true) held 46 v d p) (hv : ∃ a l c, v = .slice a l c) : ∃ rows, MSl W v rows := by
  obtain ⟨fuel, hf⟩ := h
  obtain ⟨a, l, c, rfl⟩ := hv
  exact msl_trod (by simpa [Value.cells] using hf)
end
end Go.Proofs.YtgfdhclpffakfaaGreat
namespace Go.Proofs.YtgfdhclpffakfaaGreat
set_option linter.unusedVariables false
set_option linter.unusedSimpArgs false
open Go.RowKit Go.ChangeShapes Go.WideShapes Go.ChangeAt

section
variable {H : Type} {enc : TypeId × Value → H} {W : World} {held : Bool}
set_option maxRecDepth 100000 in
theorem lsl_trod {fuel : Nat} {v : Value} {y : DataW H × List MemPlace} (h : DataW.trod enc Tryz.prog W 0 (fun _ => true) held fuel 22 [v] = some y) : ∃ L, LSl W v L := by
  rcases Go.Deep.open_slice Tryz.underlying22 h with ⟨hcs, _⟩ | ⟨x, len, cap, m, n, D, Pl, hcs, _, hl, hm, hmm, _, hr⟩
  · simp at hcs; subst hcs
    exact ⟨[], LSl.nil W⟩
  · simp at hcs; subst hcs
    simp only [if_true] at hmm
    subst hmm
    rw [show Tryz.prog.cellsOf 56 = 3 by kernel_rfl] at hr
    have key : ∀ i, i < len → ∃ q : Lv × Value × Value, W.cell? (x.add (i * 3)) = some (.int .i64 q.1.pt) ∧ W.cell? (x.add (i * 3 + 1)) = some q.2.1 ∧ W.cell? (x.add (i * 3 + 2)) = some q.2.2 ∧ ISl W q.2.1 q.1.orb ∧ MSl W q.2.2 q.1.reps := fun i hi => by
      obtain ⟨cs', h1, h2⟩ := hr i (by omega)
      obtain ⟨_, hlen, hcell⟩ := World.cells?_some h1
      obtain ⟨xs, k, _, _, _, hxl, hf⟩ := DataW.trod_struct Tryz.underlying56 h2
      match xs, hxl, cs', hlen with
      | [y0, y1, y2], _, [v0, v1, v2], _ =>
        have g0 := hf 0 _ rfl
        have g1 := hf 1 _ rfl
        have g2 := hf 2 _ rfl
        simp [show Tryz.prog.cellsOf 3 = 1 by kernel_rfl, show Tryz.prog.cellsOf 32 = 1 by kernel_rfl, show Tryz.prog.cellsOf 46 = 1 by kernel_rfl] at g0 g1 g2
        have e0 := hcell 0 (by omega)
        have e1 := hcell 1 (by omega)
        have e2 := hcell 2 (by omega)
        rw [Go.Deep.add_add] at e0 e1 e2
        obtain ⟨p, ep, _, _⟩ := DataW.trod_int Tryz.underlying3 g0
        simp at ep
        subst ep
        obtain ⟨l, hl⟩ := isl_trod g1
        obtain ⟨rows, hrw⟩ := msl_trod g2
        exact ⟨(⟨p, l, rows⟩, v1, v2), by simpa using e0, by simpa using e1, by simpa using e2, hl, hrw⟩
    haveI : Inhabited (Lv × Value × Value) := ⟨(⟨0, [], []⟩, .bool false, .bool false)⟩
    obtain ⟨q, hq⟩ := Go.Deep.choose_lt key
    have hL : ((List.range len).map fun i => (q i).1).length = len := by simp
    have hO : ((List.range len).map fun i => ((q i).2.1, (q i).2.2)).length = len := by simp
    refine ⟨(List.range len).map fun i => (q i).1, (List.range len).map fun i => ((q i).2.1, (q i).2.2), by rw [hL, hO], ⟨by rw [lvC_len _ _ (by rw [hL, hO])], some x, m, by rw [hL], by rw [hL]; exact hl, hm, fun hn => ?_⟩, fun i l o h1 h2 => ?_⟩
    · rw [hL] at hn
      have h0 := (hq 0 hn).1
      have hx := spot_none h0 (.inl ⟨_, _, rfl⟩)
      have hx0 : (x.add (0 * 3)) = x := by simp [Addr.add]
      rw [hx0] at hx
      refine ⟨x.block, x.off, congrArg some hx, fun j u hu => ?_⟩
      have hj : j < len * 3 := by
        have := (List.getElem?_eq_some_iff.1 hu).1
        rw [lvC_len _ _ (by rw [hL, hO]), hL] at this
        exact this
      obtain ⟨i, r, hr3, rfl⟩ : ∃ i r, r < 3 ∧ j = 3 * i + r := ⟨j / 3, j % 3, Nat.mod_lt _ (by omega), by omega⟩
      have hi : i < len := by omega
      obtain ⟨k0, k1, k2, _, _⟩ := hq i hi
      rw [hx, add_off] at k0 k1 k2
      obtain ⟨g1, g2, g3⟩ := lvC_get ((List.range len).map fun i => (q i).1) ((List.range len).map fun i => ((q i).2.1, (q i).2.2)) i (q i).1 ((q i).2.1, (q i).2.2) (by simp [hi]) (by simp [hi])
      match r, hr3 with
      | 0, _ => rw [Nat.add_zero, g1] at hu; rw [Nat.add_zero, Nat.mul_comm, ← hu]; exact k0
      | 1, _ => rw [g2] at hu; rw [Nat.mul_comm, ← hu]; exact k1
      | 2, _ => rw [g3] at hu; rw [Nat.mul_comm, ← hu]; exact k2
    · have hi : i < len := by have := (List.getElem?_eq_some_iff.1 h1).1; simpa using this
      simp [hi] at h1 h2
      subst h1 h2
      exact ⟨(hq i hi).2.2.2.1, (hq i hi).2.2.2.2⟩
set_option maxRecDepth 100000 in
theorem open_chain {r : Reach} {b0 : Nat} {v : Value} {d : DataW H} {p : List MemPlace} (hv : Value.okWide Tryz.prog W r b0 24 v) (h : DataW.Trod enc Tryz.prog W 0 (fun _ => true) held 24 v d p) :
    ∃ (c : Int) (u : Value) (L : List Lv), v = .agg #[.int .i64 c, u] ∧ LSl W u L ∧ -9223372036854775808 ≤ c ∧ c ≤ 9223372036854775807 := by
  obtain ⟨v0, v1, y0, y1, n, rfl, _, _, h0, h1⟩ := Go.Joins.open_agg2 Tryz.underlying24 (by kernel_rfl) (by kernel_rfl) hv h
  obtain ⟨P, e0, _, hw⟩ := DataW.trod_int Tryz.underlying3 h0
  obtain ⟨l, hl⟩ := lsl_trod h1
  simp at e0
  exact ⟨P, v1, l, by rw [e0], hl, (wf_i64_rng hw).1, (wf_i64_rng hw).2⟩
end
end Go.Proofs.YtgfdhclpffakfaaGreat
