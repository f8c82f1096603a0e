/- Lists of rows of the call's own. -/
import Derived.Test.YtpphaicbdeeacaaPeelL
namespace Go.Proofs.Ytpphaicbdeeacaa
set_option linter.unusedVariables false
set_option linter.unusedSimpArgs false
open Go.RowKit

/-- A list of rows of the call's own. -/
structure MRows (w : World) (base : Nat) (cv : Value) (M : List (List Int)) (vals : List Value) : Prop where
  cvo : w.ownsRow base 22 1 cv M.length vals
  row : ∀ (i : Nat) (r : List Int) (u : Value), M[i]? = some r → vals[i]? = some u → w.ownsRow base 3 1 u r.length (ints r)
  apart : ∀ u ∈ vals, Aprt u cv
theorem MRows.nil (w : World) (base : Nat) : MRows w base (.slice none 0 0) [] [] := ⟨World.ownsRow_nil _ _ _ _, fun i r u h => by simp at h, fun u h => by cases h⟩
theorem MRows.len {w : World} {base : Nat} {cv : Value} {M : List (List Int)} {vals : List Value} (h : MRows w base cv M vals) : vals.length = M.length := by
  have := h.cvo.1; omega
theorem MRows.ex {w w' : World} {base : Nat} {cv : Value} {M : List (List Int)} {vals : List Value} (h : MRows w base cv M vals) (hx : Ex w w') : MRows w' base cv M vals :=
  ⟨ownsRow_ex h.cvo hx, fun i r u h1 h2 => ownsRow_ex (h.row i r u h1 h2) hx, h.apart⟩
theorem MRows.setNe {w : World} {base : Nat} {cv : Value} {M : List (List Int)} {vals : List Value} (h : MRows w base cv M vals) {a : Addr} (ha : a.block < base) (u : Value) : MRows (w.setCell a u) base cv M vals := by
  have key : ∀ {e : TypeId} {size : Nat} {v : Value} {n : Nat} {xs : List Value}, w.ownsRow base e size v n xs → v.ownBlock ≠ some a.block := fun k e => by
    have := (k.lt _ e).1; omega
  exact ⟨ownsRow_setCell_ne h.cvo (key h.cvo) u, fun i r t h1 h2 => ownsRow_setCell_ne (h.row i r t h1 h2) (key (h.row i r t h1 h2)) u, h.apart⟩
theorem MRows.app {w w' : World} {base : Nat} {cv cv' l : Value} {M : List (List Int)} {vals : List Value} {L : List Int} (h : MRows w base cv M vals) (hl : w.ownsRow base 3 1 l L.length (ints L)) (hal : Aprt l cv)
    (ha : Appd w w' base 22 1 cv cv' M.length vals [l]) : MRows w' base cv' (M ++ [L]) (vals ++ [l]) := by
  have hn := h.len
  have key : ∀ u ∈ vals, ∃ r, w.ownsRow base 3 1 u r (ints []) ∨ ∃ L : List Int, w.ownsRow base 3 1 u L.length (ints L) := fun u hu => by
    obtain ⟨i, hi, e⟩ := List.getElem_of_mem hu
    exact ⟨0, .inr ⟨_, h.row i (M[i]'(by omega)) u (List.getElem?_eq_getElem _) (by rw [List.getElem?_eq_getElem hi, e])⟩⟩
  refine ⟨by simpa using ha.own, fun i r u h1 h2 => ?_, fun u hu => ?_⟩
  · by_cases e : i < M.length
    · rw [List.getElem?_append_left e] at h1
      rw [List.getElem?_append_left (by omega)] at h2
      exact (ha.row (h.row i r u h1 h2) (h.apart u (List.mem_of_getElem? h2))).1
    · rw [List.getElem?_append_right (by omega)] at h1 h2
      have hi : i - M.length = 0 := by
        have := (List.getElem?_eq_some_iff.1 h1).1
        simp at this; omega
      rw [hi] at h1
      rw [hn, hi] at h2
      simp at h1 h2
      subst h1 h2
      exact (ha.row hl hal).1
  · rcases List.mem_append.1 hu with hu | hu
    · obtain ⟨i, hi, e⟩ := List.getElem_of_mem hu
      exact (ha.row (h.row i (M[i]'(by omega)) u (List.getElem?_eq_getElem _) (by rw [List.getElem?_eq_getElem hi, e])) (h.apart u hu)).2
    · simp at hu; subst hu; exact (ha.row hl hal).2
theorem MRows.pre {w w' : World} {base : Nat} {cv v' l : Value} {M : List (List Int)} {vals : List Value} {L : List Int} {te : TypeId} (h : MRows w base cv M vals) (hl : w.ownsRow base 3 1 l L.length (ints L)) (hb : base ≤ w.heap.size)
    (ho : w'.ownsRow w.heap.size 22 1 v' (1 + M.length) ([l] ++ vals)) (hg : (w.alloc (.cells #[l] te)).grownBy w' (some w.heap.size)) (ha : v'.ownBlock = some w.heap.size ∨ v'.ownBlock = some (w.heap.size + 1)) : MRows w' base v' ([L] ++ M) ([l] ++ vals) := by
  have hn := h.len
  have keep : ∀ {u : Value} {r : List Int}, w.ownsRow base 3 1 u r.length (ints r) → w'.ownsRow base 3 1 u r.length (ints r) ∧ Aprt u v' := fun {u r} k => by
    have hne : ∀ b, u.ownBlock = some b → b < w.heap.size := fun b e => (k.lt b e).2
    refine ⟨(k.alloc _).kept hg ?_, ?_⟩
    · cases e : u.ownBlock with
      | none => exact .inl rfl
      | some b => right; intro e2; injection e2 with e2; have := hne b e; omega
    · unfold Aprt
      cases e : u.ownBlock with
      | none => exact .inl rfl
      | some b =>
        right
        have := hne b e
        rcases ha with ha | ha <;> rw [ha] <;> intro e2 <;> injection e2 with e2 <;> omega
  refine ⟨by
    rw [List.length_append]
    exact ownsRow_mono ho hb, fun i r u h1 h2 => ?_, fun u hu => ?_⟩
  · cases i with
    | zero => simp at h1 h2; subst h1 h2; exact (keep hl).1
    | succ i => simp at h1 h2; exact (keep (h.row i r u h1 h2)).1
  · rcases List.mem_append.1 hu with hu | hu
    · simp at hu; subst hu; exact (keep hl).2
    · obtain ⟨i, hi, e⟩ := List.getElem_of_mem hu
      exact (keep (h.row i (M[i]'(by omega)) u (List.getElem?_eq_getElem _) (by rw [List.getElem?_eq_getElem hi, e]))).2
theorem MRows.msl {w : World} {base : Nat} {cv : Value} {M : List (List Int)} {vals : List Value} (h : MRows w base cv M vals) : MSl w cv M :=
  ⟨vals, Sl.own h.cvo, fun i r u h1 h2 => Sl.own (h.row i r u h1 h2)⟩

theorem grown_frz {w w' : World} {ob : Option Nat} (hg : w.grownBy w' ob) {a : Addr} (hlt : a.block < w.heap.size) (hne : some a.block ≠ ob) : w'.frozen? a = w.frozen? a := by
  have h2 := hg.block a.block hlt hne
  unfold World.frozen?
  rw [h2]

end Go.Proofs.Ytpphaicbdeeacaa
