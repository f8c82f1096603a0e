/- Small helpers over any program: worlds that only grow, slices that read as lists of cells. -/
import Derived.Test.YtgfdhclpffakfaaRows
import Derived.WalkKit
import Derived.WalkSpells
import Derived.Deep.RegionWith
import Derived.Deep.QuietTactic
import Derived.BigQuiet
import Derived.WalkLawsBesides
namespace Go.Proofs.Ytgfdhclpffakfaa
set_option linter.unusedVariables false
set_option linter.unusedSimpArgs false
open Go.RowKit

theorem hid_ {p : Prop} (h : p) : Hid p := h

theorem ret_int {k : IntKind} {a b : Int} (h : a = b) : Ending.returned (.int k a) = .returned (.int k b) := by rw [h]
theorem ret_ii {k l : IntKind} {a b c d : Int} (h : a = b) (h' : c = d) : Ending.returned (.tuple #[.int k a, .int l c]) = .returned (.tuple #[.int k b, .int l d]) := by rw [h, h']
theorem ret_bool {a b : Bool} (h : a = b) : Ending.returned (.bool a) = .returned (.bool b) := by rw [h]
theorem ret_iii {k1 k2 k3 : IntKind} {a1 a2 a3 b1 b2 b3 : Int} (h1 : a1 = b1) (h2 : a2 = b2) (h3 : a3 = b3) :
    Ending.returned (.tuple #[.int k1 a1, .int k2 a2, .int k3 a3]) = .returned (.tuple #[.int k1 b1, .int k2 b2, .int k3 b3]) := by rw [h1, h2, h3]
theorem ret_4 {k1 k2 k3 k4 : IntKind} {a1 a2 a3 a4 b1 b2 b3 b4 : Int} (h1 : a1 = b1) (h2 : a2 = b2) (h3 : a3 = b3) (h4 : a4 = b4) :
    Ending.returned (.tuple #[.int k1 a1, .int k2 a2, .int k3 a3, .int k4 a4]) = .returned (.tuple #[.int k1 b1, .int k2 b2, .int k3 b3, .int k4 b4]) := by rw [h1, h2, h3, h4]
theorem results_tmp4 {P : Program} {fn : Func} {t u v x : Tmp} (h : fn.results = #[.tmp t, .tmp u, .tmp v, .tmp x]) (tmps : Array Value) (w : World) :
    (results fn tmps).run P w = .ok (.tuple #[tmps.getD t undef, tmps.getD u undef, tmps.getD v undef, tmps.getD x undef]) w := by
  simp [results, h]

/-- The world has only grown. -/
def Ex (w w' : World) : Prop := Below w.heap.size w w'
theorem Ex.refl (w : World) : Ex w w := Below.refl _ _
theorem Ex.trans {a b c : World} (h : Ex a b) (k : Ex b c) : Ex a c := Below.trans h (Below.mono k h.size)
theorem Ex.drew {a b : World} (h : Ex a b) : Ex a b.drew := Below.drew h
theorem Ex.drewN {a b : World} (h : Ex a b) (n : Nat) : Ex a (b.drewN n) := below_drewN h n
theorem Ex.alloc {a b : World} (h : Ex a b) (o : Obj) : Ex a (b.alloc o) := Below.alloc h h.size o
theorem Ex.setCell {a b : World} (h : Ex a b) {p : Addr} (hp : a.heap.size ≤ p.block) (u : Value) : Ex a (b.setCell p u) := Below.setCell h hp u
theorem Ex.cell {w w' : World} (h : Ex w w') {p : Addr} {u : Value} (hc : w.cell? p = some u) : w'.cell? p = some u :=
  (Below.cell h (World.block_lt_of_cell? w _ hc)).trans hc

/-- A slice that reads as these cells, `size` of them for each element. -/
def Sl (w : World) (v : Value) (n size : Nat) (xs : List Value) : Prop :=
  xs.length = n * size ∧ ∃ a cap, v = .slice a n cap ∧ n ≤ cap ∧ cap ≤ maxLen ∧
    (0 < n → ∃ b o, a = some ⟨b, o, none⟩ ∧ ∀ j u, xs[j]? = some u → w.cell? ⟨b, o + j, none⟩ = some u)

theorem Sl.ex {w w' : World} {v : Value} {n size : Nat} {xs : List Value} (h : Sl w v n size xs) (hx : Ex w w') : Sl w' v n size xs := by
  obtain ⟨h1, a, cap, h2, h3, h4, h5⟩ := h
  refine ⟨h1, a, cap, h2, h3, h4, fun hn => ?_⟩
  obtain ⟨b, o, h6, h7⟩ := h5 hn
  exact ⟨b, o, h6, fun j u hu => hx.cell (h7 j u hu)⟩

theorem Sl.nil (w : World) (size : Nat) : Sl w (.slice none 0 0) 0 size [] := ⟨by simp, none, 0, rfl, Nat.le_refl _, by unfold maxLen; omega, fun h => absurd h (by omega)⟩

theorem Sl.own {w : World} {base : Nat} {e : TypeId} {size : Nat} {v : Value} {n : Nat} {xs : List Value} (h : w.ownsRow base e size v n xs) : Sl w v n size xs := by
  refine ⟨h.1, ?_⟩
  rcases h.2 with ⟨h2, h3⟩ | ⟨g, cap, cur, hv, hb, hg, h1, h2, h3, h4⟩
  · exact ⟨none, 0, by rw [h2, h3], by omega, by unfold maxLen; omega, fun h => by omega⟩
  · refine ⟨some ⟨g, 0, none⟩, cap, hv, h1, h2, fun _ => ⟨g, 0, rfl, fun j u hu => ?_⟩⟩
    rw [Nat.zero_add, cell_of_row w g j cur e (0, 0) hg]
    rw [← h4, List.getElem?_take] at hu
    split at hu
    · simpa using hu
    · cases hu

theorem ownsRow_setCell_ne {w : World} {base : Nat} {e : TypeId} {size : Nat} {v : Value} {n : Nat} {xs : List Value} (h : w.ownsRow base e size v n xs) {a : Addr} (ha : v.ownBlock ≠ some a.block) (u : Value) : (w.setCell a u).ownsRow base e size v n xs := by
  refine h.kept (row := some a.block) ⟨rfl, rfl, rfl, by simp [World.setCell], fun k _ hk => Below.heap_setCell _ _ _ _ (fun e => hk (by rw [e]))⟩ ?_
  exact .inr ha

theorem ownsRow_ex {w w' : World} {base : Nat} {e : TypeId} {size : Nat} {v : Value} {n : Nat} {xs : List Value} (h : w.ownsRow base e size v n xs) (hx : Ex w w') : w'.ownsRow base e size v n xs := by
  refine h.kept (row := none) ⟨hx.os, hx.tape, hx.output, hx.size, fun k hk _ => hx.block k hk⟩ ?_
  cases v.ownBlock <;> simp

theorem ownBlock_ne {w : World} {base : Nat} {e : TypeId} {size : Nat} {v : Value} {n : Nat} {xs : List Value} (h : w.ownsRow base e size v n xs) {b : Nat} (hb : w.heap.size ≤ b) : v.ownBlock ≠ some b := by
  intro e
  have := (h.lt b e).2
  omega

/-- Behind an append by 'wpList_append_own'. -/
theorem Ex.grown {a w w' : World} {base : Nat} {e : TypeId} {size : Nat} {v : Value} {n : Nat} {xs : List Value} (h : Ex a w) (hown : w.ownsRow base e size v n xs) (hb : a.heap.size ≤ base) (hg : w.grownBy w' v.ownBlock) : Ex a w' :=
  Below.grown h hg h.size (fun k hk => Nat.le_trans hb (hown.lt k hk).1)

theorem cell_set_off {w : World} {B i j : Nat} {u : Value} (h : i ≠ j) : (w.setCell ⟨B, i, none⟩ u).cell? ⟨B, j, none⟩ = w.cell? ⟨B, j, none⟩ :=
  World.cell?_setCell_other _ _ _ _ (by intro e; injection e; omega)

theorem hnews1 (w : World) (a : Value) (t : TypeId) : ∀ (j : Nat) (u : Value), [a][j]? = some u → (w.alloc (.cells #[a] t)).cell? ((⟨w.heap.size, 0, none⟩ : Addr).add j) = some u := by
  intro j u h
  rcases j with _ | j
  · simp at h; subst h; simp [Addr.add]
  · simp at h
theorem hnews2 (w : World) (a b : Value) (t : TypeId) : ∀ (j : Nat) (u : Value), [a, b][j]? = some u → (w.alloc (.cells #[a, b] t)).cell? ((⟨w.heap.size, 0, none⟩ : Addr).add j) = some u := by
  intro j u h
  rcases j with _ | _ | j
  · simp at h; subst h; simp [Addr.add]
  · simp at h; subst h; simp [Addr.add]
  · simp at h

theorem and_one_i64 (E : Int) (h0 : 0 ≤ E) (h1 : E ≤ 9223372036854775807) : bits BinOp.and IntKind.i64 E 1 = E % 2 := by
  obtain ⟨n, rfl⟩ := Int.eq_ofNat_of_zero_le h0
  have hx : n &&& 1 < 2 ^ 63 := Nat.and_lt_two_pow _ (by omega)
  have h1 : (BitVec.ofInt 64 (n : Int)).toNat = n := by
    rw [BitVec.ofInt_natCast, BitVec.toNat_ofNat]; exact Nat.mod_eq_of_lt (by omega)
  have h2 : (BitVec.ofInt 64 (1 : Int)).toNat = 1 := by rfl
  show IntKind.i64.wrap ((BitVec.ofInt 64 (n : Int) &&& BitVec.ofInt 64 (1 : Int)).toNat : Int) = _
  rw [BitVec.toNat_and, h1, h2, IntWalk.i64_in _ (by omega), Nat.and_one_is_mod]
  omega

theorem w64 {x : Int} (h1 : -9223372036854775808 ≤ x) (h2 : x ≤ 9223372036854775807) : wrap64 x = x := IntWalk.wrap64_in _ ⟨h1, h2⟩

theorem w64_rng (x : Int) : -9223372036854775808 ≤ wrap64 x ∧ wrap64 x ≤ 9223372036854775807 := by
  unfold wrap64
  omega

theorem wrap_tdiv (x b : Int) (h1 : -9223372036854775807 ≤ x) (h2 : x ≤ 9223372036854775807) : wrap64 (x.tdiv b) = x.tdiv b := by
  refine IntWalk.wrap64_in _ ?_
  have h3 : (x.tdiv b).natAbs ≤ x.natAbs := by rw [Int.natAbs_tdiv]; exact Nat.div_le_self _ _
  omega

theorem pos_of_mul_pos {r m : Int} (h : 0 < r * m) (hr : 1 ≤ r) : 1 ≤ m := by
  have := Int.pos_of_mul_pos_right h (by omega)
  omega

/-- The ints of a slice as cells. -/
def ints (l : List Int) : List Value := l.map (Value.int .i64)
theorem ints_length (l : List Int) : (ints l).length = l.length := List.length_map _
theorem ints_get {l : List Int} {j : Nat} {x : Int} (h : l[j]? = some x) : (ints l)[j]? = some (.int .i64 x) := by simp [ints, h]

/-- A slice of ints that reads as a list. -/
def ISl (w : World) (v : Value) (l : List Int) : Prop := Sl w v l.length 1 (ints l)
theorem ISl.ex {w w' : World} {v : Value} {l : List Int} (h : ISl w v l) (hx : Ex w w') : ISl w' v l := Sl.ex h hx

/-- What the walk wants of such a slice. -/
theorem ISl.open {w : World} {v : Value} {l : List Int} (h : ISl w v l) : ∃ a cap, v = .slice a l.length cap ∧ l.length ≤ cap ∧ cap ≤ maxLen ∧
    (0 < l.length → ∃ b o, a = some ⟨b, o, none⟩ ∧ ∀ j x, l[j]? = some x → w.cell? ⟨b, o + j, none⟩ = some (.int .i64 x)) := by
  obtain ⟨h1, a, cap, h2, h3, h4, h5⟩ := h
  refine ⟨a, cap, h2, h3, h4, fun hn => ?_⟩
  obtain ⟨b, o, h6, h7⟩ := h5 hn
  exact ⟨b, o, h6, fun j x hx => h7 j _ (ints_get hx)⟩

theorem quiet_left {P : Program} {f : FuncId} {args : Array Value} {w : World} {n : Nat} {v : Value}
    (h : Calls P f args (w.drewN n) fun e w' => e = .returned v ∧ w.drewN n = w') : Calls P f args (w.drewN n) fun e w'' => e = .returned v ∧ ∃ m, w'' = w.drewN m :=
  h.mono fun _ _ ⟨he, hm⟩ => ⟨he, n, hm.symm⟩
theorem quiet_draw {P : Program} {f : FuncId} {args : Array Value} {w : World} {n : Nat} {v : Value}
    (h : Calls P f args (w.drewN n) fun e w' => e = .returned v ∧ ∃ k, w' = (w.drewN n).drewN k) : Calls P f args (w.drewN n) fun e w'' => e = .returned v ∧ ∃ m, w'' = w.drewN m :=
  h.mono fun _ _ ⟨he, k, hm⟩ => ⟨he, n + k, by rw [hm, World.drewN_drewN]⟩
theorem cell?_drewN (w : World) (n : Nat) (a : Addr) : (w.drewN n).cell? a = w.cell? a := rfl

/-- The shell's word for a slice of integers that came in. -/
def IsRowI (w : World) (a : Option Addr) (len cap : Nat) (zs : List Int) : Prop :=
  (a = none ∧ len = 0 ∧ cap = 0 ∧ zs = []) ∨
  ∃ x, a = some x ∧ len ≤ cap ∧ cap ≤ maxLen ∧ zs.length = cap ∧ (∀ i, i < zs.length → w.cell? (x.add i) = some (.int .i64 (zs.getD i 0))) ∧ ∀ n ∈ zs, (Lit.int .i64 n).wf = true

theorem wf_i64_rng {n : Int} (h : (Lit.int .i64 n).wf = true) : -9223372036854775808 ≤ n ∧ n ≤ 9223372036854775807 := by
  simp [Lit.wf, IntKind.min, IntKind.max, IntKind.signed, IntKind.bits] at h
  omega

theorem isl_of_row {w : World} {a : Option Addr} {len cap : Nat} {zs : List Int} (h : IsRowI w a len cap zs) :
    ∃ l : List Int, l.length = len ∧ ISl w (.slice a len cap) l ∧ ∀ x ∈ l, -9223372036854775808 ≤ x ∧ x ≤ 9223372036854775807 := by
  rcases h with ⟨rfl, rfl, rfl, rfl⟩ | ⟨x, rfl, h1, h2, h3, h4, h5⟩
  · exact ⟨[], rfl, Sl.nil w 1, by intro x hx; cases hx⟩
  · have hl : (zs.take len).length = len := by rw [List.length_take]; omega
    refine ⟨zs.take len, hl, ?_, fun y hy => wf_i64_rng (h5 y (List.mem_of_mem_take hy))⟩
    refine ⟨by rw [ints_length]; omega, some x, cap, by rw [hl], by omega, h2, fun hn => ?_⟩
    rw [hl] at hn
    have hx0 := h4 0 (by omega)
    have hsp : x.spot = none := by
      rcases hs : x.spot with _ | s
      · rfl
      · exfalso
        rw [show x.add 0 = x by simp [Addr.add]] at hx0
        simp only [World.cell?, hs] at hx0
        split at hx0 <;> simp at hx0
    refine ⟨x.block, x.off, by cases x; simp_all, fun j u hu => ?_⟩
    simp only [ints, List.getElem?_map, List.getElem?_take] at hu
    split at hu
    · rename_i hj
      have h6 := h4 j (by omega)
      have hadd : x.add j = ⟨x.block, x.off + j, none⟩ := by
        unfold Addr.add
        split
        · rename_i h0; subst h0; cases x; simp_all
        · rfl
      rw [hadd] at h6
      rw [h6]
      obtain ⟨y, hy, rfl⟩ := Option.map_eq_some_iff.1 hu
      rw [List.getD_eq_getElem?_getD, hy]; rfl
    · cases hu

/-- A slice literal of three ints, behind one block. -/
theorem isl_made (w : World) (l : List Int) (t : TypeId) (hl : l.length ≤ 1000) : ISl (w.alloc (.cells (ints l).toArray t)) (.slice (some ⟨w.heap.size, 0, none⟩) l.length l.length) l := by
  refine ⟨by rw [ints_length]; omega, some ⟨w.heap.size, 0, none⟩, l.length, rfl, Nat.le_refl _, by unfold maxLen; omega, fun _ => ⟨_, _, rfl, fun j u h => ?_⟩⟩
  rw [Nat.zero_add]
  simpa using h

end Go.Proofs.Ytgfdhclpffakfaa
