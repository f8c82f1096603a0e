/- The state of elimination. -/
import Derived.Test.YtpphaicbdeeacaaPeelHE
namespace Go.Proofs.Ytpphaicbdeeacaa
set_option linter.unusedVariables false
set_option linter.unusedSimpArgs false
open Go.RowKit

def pI (piv : List Nat) : List Int := piv.map fun (x : Nat) => (x : Int)
theorem pI_len (piv : List Nat) : (pI piv).length = piv.length := by unfold pI; simp
theorem ownsRow_heap {w w' : World} {base : Nat} {e : TypeId} {size : Nat} {v : Value} {n : Nat} {xs : List Value} (h : w.ownsRow base e size v n xs) (hk : ∀ b, v.ownBlock = some b → w'.heap[b]? = w.heap[b]?) : w'.ownsRow base e size v n xs := by
  refine ⟨h.1, ?_⟩
  rcases h.2 with h1 | ⟨g, cap, cur, rfl, hb, hg, h3⟩
  · exact .inl h1
  · exact .inr ⟨g, cap, cur, rfl, hb, by rw [hk g rfl]; exact hg, h3⟩
def AV (pv : Value) (B4 B5 B7 : Nat) : List Nat := pv.ownBlock.toList ++ [B4, B5, B7]
structure EB (w0 w : World) (base g R N : Nat) (blk cap : Nat → Nat) (a : Nat → Nat → Int) (avs : List Nat) (B4 B5 B7 b : Nat) (pv : Value) (piv : List Nat) : Prop where
  em : EM w base g R N blk cap a avs
  i4 : B4 ∈ avs
  i5 : B5 ∈ avs
  i7 : B7 ∈ avs
  c4 : w.cell? ⟨B4, 0, none⟩ = some (.pointer (some ⟨b, 0, none⟩))
  c5 : w.cell? ⟨B5, 0, none⟩ = some (.slice (some ⟨g, 0, none⟩) R R)
  c7 : w.cell? ⟨B7, 0, none⟩ = some (.slice none 0 0)
  pvo : w.ownsRow base 3 1 pv piv.length (ints (pI piv))
  pvi : ∀ B, pv.ownBlock = some B → B ∈ avs ∧ B ≠ B4 ∧ B ≠ B5 ∧ B ≠ B7
  ex : Ex w0 w
  bs : w0.heap.size ≤ base
section
variable {w0 w : World} {base g R N : Nat} {blk cap : Nat → Nat} {a : Nat → Nat → Int} {avs : List Nat} {B4 B5 B7 b : Nat} {pv : Value} {piv : List Nat}
theorem EB.later (h : EB w0 w base g R N blk cap a avs B4 B5 B7 b pv piv) {w' : World} (hx : Ex w w') : EB w0 w' base g R N blk cap a avs B4 B5 B7 b pv piv :=
  ⟨h.em.ex hx, h.i4, h.i5, h.i7, hx.cell h.c4, hx.cell h.c5, hx.cell h.c7, ownsRow_ex h.pvo hx, h.pvi, h.ex.trans hx, h.bs⟩
theorem EB.box (h : EB w0 w base g R N blk cap a avs B4 B5 B7 b pv piv) (o : Obj) : EB w0 (w.alloc o) base g R N blk cap a (w.heap.size :: avs) B4 B5 B7 b pv piv := by
  have h1 := h.later ((Ex.refl w).alloc o)
  exact ⟨h.em.box o, List.mem_cons_of_mem _ h.i4, List.mem_cons_of_mem _ h.i5, List.mem_cons_of_mem _ h.i7, h1.c4, h1.c5, h1.c7, h1.pvo, fun B hB => by obtain ⟨k1, k2⟩ := h.pvi B hB; exact ⟨List.mem_cons_of_mem _ k1, k2⟩, h1.ex, h1.bs⟩
theorem EB.less (h : EB w0 w base g R N blk cap a avs B4 B5 B7 b pv piv) {bvs : List Nat} (hs : ∀ B ∈ bvs, B ∈ avs) (h4 : B4 ∈ bvs) (h5 : B5 ∈ bvs) (h7 : B7 ∈ bvs) (hp : ∀ B, pv.ownBlock = some B → B ∈ bvs) : EB w0 w base g R N blk cap a bvs B4 B5 B7 b pv piv :=
  ⟨h.em.less hs, h4, h5, h7, h.c4, h.c5, h.c7, h.pvo, fun B hB => ⟨hp B hB, (h.pvi B hB).2⟩, h.ex, h.bs⟩
theorem EB.toAV (h : EB w0 w base g R N blk cap a avs B4 B5 B7 b pv piv) : EB w0 w base g R N blk cap a (AV pv B4 B5 B7) B4 B5 B7 b pv piv := by
  refine h.less (fun B hB => ?_) (by unfold AV; simp) (by unfold AV; simp) (by unfold AV; simp) (fun B hB => by unfold AV; rw [hB]; simp)
  unfold AV at hB
  rcases List.mem_append.1 hB with hB | hB
  · have : pv.ownBlock = some B := by
      cases e : pv.ownBlock with
      | none => rw [e] at hB; simp at hB
      | some C => rw [e] at hB; simp at hB; rw [hB]
    exact (h.pvi B this).1
  · simp at hB
    rcases hB with rfl | rfl | rfl
    · exact h.i4
    · exact h.i5
    · exact h.i7
theorem EB.step (h : EB w0 w base g R N blk cap a avs B4 B5 B7 b pv piv) {a' : Nat → Nat → Int} {r : Ending} {w' : World} (hs : Stp w base g R N a' avs r w') : ∃ blk' cap', EB w0 w' base g R N blk' cap' a' avs B4 B5 B7 b pv piv := by
  obtain ⟨_, ⟨blk', cap', he⟩, hk, hx⟩ := hs
  exact ⟨blk', cap', he, h.i4, h.i5, h.i7, hk.cell h.i4 h.c4, hk.cell h.i5 h.c5, hk.cell h.i7 h.c7, ownsRow_heap h.pvo fun B hB => hk B (h.pvi B hB).1, h.pvi, hx w0 h.ex h.bs, h.bs⟩
/-- A store into the block of a variable of the round. -/
theorem EB.setB (h : EB w0 w base g R N blk cap a avs B4 B5 B7 b pv piv) {B : Nat} (hB : B ∈ avs) (h4 : B ≠ B4) (h5 : B ≠ B5) (h7 : B ≠ B7) (hp : pv.ownBlock ≠ some B) (hw : w0.heap.size ≤ B) (u : Value) : EB w0 (w.setCell ⟨B, 0, none⟩ u) base g R N blk cap a avs B4 B5 B7 b pv piv :=
  ⟨h.em.setBox hB u, h.i4, h.i5, h.i7, by rw [cell_setCell_ne h4]; exact h.c4, by rw [cell_setCell_ne h5]; exact h.c5, by rw [cell_setCell_ne h7]; exact h.c7, ownsRow_setCell_ne h.pvo hp u, h.pvi, h.ex.setCell (p := ⟨B, 0, none⟩) hw u, h.bs⟩
/-- A pivot more. -/
theorem EB.app (h : EB w0 w base g R N blk cap a avs B4 B5 B7 b pv piv) {c : Nat} {w' : World} {pv' : Value} (ha : Appd w w' base 3 1 pv pv' piv.length (ints (pI piv)) [.int .i64 c]) : EB w0 w' base g R N blk cap a (AV pv' B4 B5 B7) B4 B5 B7 b pv' (piv ++ [c]) := by
  have hne : ∀ B ∈ avs, (∀ C, pv.ownBlock = some C → C ≠ B) → some B ≠ pv.ownBlock := fun B _ hn e => hn B e.symm rfl
  have n4 : some B4 ≠ pv.ownBlock := fun e => (h.pvi B4 e.symm).2.1 rfl
  have n5 : some B5 ≠ pv.ownBlock := fun e => (h.pvi B5 e.symm).2.2.1 rfl
  have n7 : some B7 ≠ pv.ownBlock := fun e => (h.pvi B7 e.symm).2.2.2 rfl
  have ng : pv.ownBlock ≠ some g := fun e => (h.em.av g (h.pvi g e).1).2.1 rfl
  have nb : ∀ i, i < R → pv.ownBlock ≠ some (blk i) := fun i hi e => (h.em.av _ (h.pvi _ e).1).2.2 i hi rfl
  have hsz := ha.grow
  have l4 := (h.em.av B4 h.i4)
  have l5 := (h.em.av B5 h.i5)
  have l7 := (h.em.av B7 h.i7)
  have pnew : ∀ B, pv'.ownBlock = some B → (pv.ownBlock = some B) ∨ B = w.heap.size + 1 := fun B hB => by
    rcases ha.at_ with k | k
    · exact .inl (by rw [← k]; exact hB)
    · rw [k] at hB; injection hB with hB; exact .inr hB.symm
  have row' : ∀ i, i < R → OwnC w' base 3 (blk i) N (cap i) (iv (a i)) := fun i hi => (ha.row (h.em.row i hi) (.inr (fun e => nb i hi e.symm))).1
  have arr' : Own w' base 22 g R (rowV blk cap N) := (ha.arr h.em.arr ng).1
  refine ⟨⟨arr', row', h.em.apart, h.em.off, fun B hB => ?_⟩, by unfold AV; simp, by unfold AV; simp, by unfold AV; simp, ha.cell h.c4 n4, ha.cell h.c5 n5, ha.cell h.c7 n7, ?_, fun B hB => ⟨by unfold AV; rw [hB]; simp, ?_⟩, ha.ex h.ex h.bs, h.bs⟩
  · unfold AV at hB
    rcases List.mem_append.1 hB with hB | hB
    · have hB' : pv'.ownBlock = some B := by
        cases e : pv'.ownBlock with
        | none => rw [e] at hB; simp at hB
        | some C => rw [e] at hB; simp at hB; rw [hB]
      refine ⟨(ha.own.lt B hB').2, ?_, fun i hi => ?_⟩
      · rcases pnew B hB' with k | k
        · exact (h.em.av B (h.pvi B k).1).2.1
        · have := h.em.arr.lt.2; omega
      · rcases pnew B hB' with k | k
        · exact (h.em.av B (h.pvi B k).1).2.2 i hi
        · have := (h.em.row i hi).lt.2; omega
    · simp at hB
      rcases hB with rfl | rfl | rfl
      · exact ⟨by omega, l4.2⟩
      · exact ⟨by omega, l5.2⟩
      · exact ⟨by omega, l7.2⟩
  · have := ha.own
    rw [List.length_append, List.length_singleton]
    have e : ints (pI (piv ++ [c])) = ints (pI piv) ++ [.int .i64 c] := by simp [pI, ints]
    rw [e]; exact this
  · rcases pnew B hB with k | k
    · exact (h.pvi B k).2
    · omega
end
end Go.Proofs.Ytpphaicbdeeacaa
