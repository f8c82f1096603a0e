/- Walk of equivalence.Word. -/
/- The state of elimination. -/
import Derived.Test.YtgdmlmhpineibaaGreatZb17
import Derived.Test.YtgdmlmhpineibaaGreatZb19
namespace Go.Proofs.YtgdmlmhpineibaaGreat
set_option linter.unusedVariables false
set_option linter.unusedSimpArgs false
open Go.RowKit

/-- The error of a map and a word. -/
def wrdE (p m : Int) (ml pl sl : List Int) (fr : Int) (x : List Int) : Int :=
  if monS p m ml pl.length pl sl fr ≠ 0 then monS p m ml pl.length pl sl fr else if x.length ≠ pl.length then 4 else if (x.any fun y => !isB (p.toNat ^ m.toNat) y) = true then 2 else 0
def wrdL (p m : Int) (ml pl sl : List Int) (fr : Int) (x : List Int) : List Int :=
  if wrdE p m ml pl sl fr x ≠ 0 then [] else il x.length (imgF p.toNat m.toNat ml pl sl fr.toNat x x.length)
def WrdR (l : List Int) (e : Int) (r : Ending) (w' : World) : Prop := ∃ v, r = .returned (.tuple #[v, .int .i64 e]) ∧ ISl w' v l
/-- What monS = 0 says. -/
theorem mon_ok {p m : Int} {ml : List Int} {n : Int} {pl sl : List Int} {fr : Int} (h : monS p m ml n pl sl fr = 0) :
    chkS p m ml = 0 ∧ 1 ≤ n ∧ n ≤ 64 ∧ (pl.length : Int) = n ∧ (sl.length : Int) = n ∧ rngB pl n = true ∧ 0 ≤ fr ∧ fr < m ∧ dupB pl = false ∧ facS (p.toNat ^ m.toNat) sl = 0 := by
  unfold monS at h
  split at h
  · cases h
  rename_i h1
  split at h
  · cases h
  rename_i h2
  split at h
  · cases h
  rename_i h3
  split at h
  · cases h
  rename_i h4
  split at h
  · cases h
  rename_i h5
  refine ⟨by simpa using h1, by omega, by omega, by omega, by omega, ?_, by omega, by omega, by simpa using h5, h⟩
  cases hr : rngB pl n with
  | true => rfl
  | false => exact absurd (.inl hr) h4
section
variable {b p m x0 : Nat} {ml : List Int}
set_option maxRecDepth 100000 in
set_option maxHeartbeats 1000000 in
theorem wrd1_any (w : World) (B : Nat) (hg : GFat w b p m ml x0) (x : Int) (c0 : w.cell? ⟨B, 0, none⟩ = some (.pointer (some ⟨b, 0, none⟩))) :
    Calls Tryz.prog 48 #[.int .i64 x, .pointer (some ⟨B, 0, none⟩)] w fun r w' => r = .returned (.bool (!isB (p ^ m) x)) ∧ Ex w w' := by
  have HI := hid_ (Is_any w hg x)
  obtain ⟨z, hz⟩ : ∃ z, isB (p ^ m) x = z := ⟨_, rfl⟩
  rw [hz] at HI ⊢
  clear hg hz
  go_enter Tryz.func48, Tryz.ntmps48
  go_wp2_with (go_at_call 49; refine HI.out.mono ?_; rintro e w1 ⟨rfl, n1, rfl⟩)
  go_ret
  exact ⟨rfl, (Ex.refl w).drewN _⟩
end

set_option maxRecDepth 100000 in
set_option maxHeartbeats 4000000 in
theorem Word_any (w : World) (p m : Int) (ml : List Int) (mv : Value) (hmv : ISl w mv ml) (pl sl : List Int) (pv sv : Value) (hp : ISl w pv pl) (hs : ISl w sv sl) (fr : Int) (x : List Int) (xv : Value) (hx : ISl w xv x) :
    Calls Tryz.prog 15 #[.agg #[.int .i64 p, .int .i64 m, mv], .agg #[pv, sv, .int .i64 fr], xv] w fun r w' => WrdR (wrdL p m ml pl sl fr x) (wrdE p m ml pl sl fr x) r w' ∧ Ex w w' := by
  obtain ⟨a0, a1, a2, ea⟩ := boxF_facts w p m mv
  obtain ⟨b0, b1, b2, eb⟩ := boxMo_facts (w.alloc (.cells #[.int .i64 p, .int .i64 m, mv] 24)) pv sv fr
  have a0 := eb.cell a0
  have a1 := eb.cell a1
  have a2 := eb.cell a2
  have hsz : (w.alloc (.cells #[.int .i64 p, .int .i64 m, mv] 24)).heap.size = w.heap.size + 1 := by simp
  rw [hsz] at b0 b1 b2
  have HE := hid_ (ea.trans eb)
  have HOP := hid_ (eOpen_any _ p m ml mv (hmv.ex HE.out) pl.length pl sl pv sv (hp.ex HE.out) (hs.ex HE.out) fr)
  have HP := hid_ (hp.ex HE.out)
  have HS := hid_ (hs.ex HE.out)
  have HXL := hid_ (hx.ex HE.out)
  obtain ⟨ma, mc, rfl, _, _, _⟩ := hmv.open
  obtain ⟨pa, pc, rfl, _, p2, _⟩ := hp.open
  obtain ⟨sa, sc, rfl, _, s2, _⟩ := hs.open
  obtain ⟨xa, xc, rfl, _, x2, _⟩ := hx.open
  unfold maxLen at p2 s2 x2
  obtain ⟨E, hE⟩ : ∃ E, monS p m ml pl.length pl sl fr = E := ⟨_, rfl⟩
  obtain ⟨W, hW⟩ : ∃ W, wrdE p m ml pl sl fr x = W := ⟨_, rfl⟩
  obtain ⟨L, hL⟩ : ∃ L, wrdL p m ml pl sl fr x = L := ⟨_, rfl⟩
  have hWD := hW
  unfold wrdE at hWD
  rw [hE] at hWD HOP
  have hLD := hL
  unfold wrdL at hLD
  rw [hW] at hLD
  rw [hW, hL]
  have HME := hid_ hE
  clear hmv hp hs hx hE hsz ea eb hW hL
  go_enter Tryz.func15, Tryz.ntmps15
  go_wp2_with fail
  obtain ⟨q, hq⟩ : ∃ q, w.heap.size = q := ⟨_, rfl⟩
  rw [hq] at a0 a1 a2 b0 b1 b2
  try simp only [hq]
  clear hq
  generalize (w.alloc (.cells #[.int .i64 p, .int .i64 m, .slice ma ml.length mc] 24)).alloc (.cells #[.slice pa pl.length pc, .slice sa sl.length sc, .int .i64 fr] 26) = w1 at *
  have B0 := hid_ b0
  have B1 := hid_ b1
  have B2 := hid_ b2
  clear a0 a1 a2 b0 b1 b2
  refine HOP.out.mono ?_
  rintro e w2 ⟨ho, hx2⟩
  have HX2 := hid_ hx2
  rcases ho with ⟨rfl, b, pn, mn, x0, rfl, rfl, rfl, hg, x1, x2'⟩ | ⟨h0, ptr, rfl⟩
  · rw [if_neg (by decide), Int.toNat_natCast, Int.toNat_natCast] at hWD
    rw [Int.toNat_natCast, Int.toNat_natCast] at hLD
    obtain ⟨_, n1, n2, n3, n4, n5, n6, n7, _, _⟩ := mon_ok HME.out
    obtain ⟨fn, rfl⟩ : ∃ fn : Nat, fr = fn := ⟨fr.toNat, by omega⟩
    rw [Int.toNat_natCast] at hLD
    have ec : Ex w2 (w2.alloc (.cells #[.pointer (some ⟨b, 0, none⟩)] 79)) := (Ex.refl _).alloc _
    have c0 : (w2.alloc (.cells #[.pointer (some ⟨b, 0, none⟩)] 79)).cell? ⟨w2.heap.size, 0, none⟩ = some (.pointer (some ⟨b, 0, none⟩)) := by simp
    have b0 := (hx2.trans ec).cell B0.out
    have b1 := (hx2.trans ec).cell B1.out
    have b2 := (hx2.trans ec).cell B2.out
    have HX3 := hid_ (HE.out.trans (hx2.trans ec))
    have HG := hid_ (hg.ex ec)
    have HP3 := hid_ (HP.out.ex (hx2.trans ec))
    have HS3 := hid_ (HS.out.ex (hx2.trans ec))
    have HX3' := hid_ (HXL.out.ex (hx2.trans ec))
    clear hg hx2 ec x1 x2'
    by_cases hl : x.length = pl.length
    · have e1 : ((x.length : Int) != (pl.length : Int)) = false := by simp; omega
      rw [if_neg (by simpa using hl)] at hWD
      obtain ⟨w3, hw3⟩ : ∃ w3, w2.alloc (.cells #[.pointer (some ⟨b, 0, none⟩)] 79) = w3 := ⟨_, rfl⟩
      obtain ⟨B, hB⟩ : ∃ B, w2.heap.size = B := ⟨_, rfl⟩
      rw [hw3] at c0 b0 b1 b2 HX3 HG HP3 HS3 HX3'
      rw [hB] at c0
      have hc := ContainsFunc_wrd w3 (.pointer (some ⟨B, 0, none⟩)) _ x.length (ints x) HX3'.out (fun j => !isB (pn ^ mn) (x.getD j 0)) fun w1 i u hx hu => by
        obtain ⟨y, _, rfl, hx2⟩ := ints_at hu
        rw [hx2]
        exact wrd1_any w1 B (HG.out.ex hx) y (hx.cell c0)
      rw [any_getD x fun y => !isB (pn ^ mn) y] at hc
      have HC := hid_ hc
      have C0 := hid_ c0
      have CB0 := hid_ b0
      have CB1 := hid_ b1
      have CB2 := hid_ b2
      have HW3 := hid_ hw3
      have HBB := hid_ hB
      obtain ⟨y, hy⟩ : ∃ y, (x.any fun y => !isB (pn ^ mn) y) = y := ⟨_, rfl⟩
      rw [hy] at HC hWD
      have HLN := hid_ hl
      clear hc hy hl c0 b1 b2 hw3 hB
      cases y with
      | true =>
        rw [if_pos rfl] at hWD
        subst hWD
        rw [if_pos (by decide)] at hLD
        subst hLD
        rw [← HW3.out] at b0
        go_wp2_with fail
        rw [HBB.out, HW3.out]
        refine HC.out.mono ?_
        rintro e w5 ⟨rfl, hx5⟩
        go_wp2_with fail
        go_ret2
        exact ⟨⟨_, rfl, isl_nil _⟩, HX3.out.trans hx5⟩
      | false =>
        rw [if_neg (by decide)] at hWD
        subst hWD
        rw [if_neg (by decide)] at hLD
        subst hLD
        rw [← HW3.out] at b0
        go_wp2_with fail
        rw [HBB.out, HW3.out]
        refine HC.out.mono ?_
        rintro e w5 ⟨rfl, hx5⟩
        have c0 := hx5.cell C0.out
        have b0 := hx5.cell CB0.out
        have b1 := hx5.cell CB1.out
        have b2 := hx5.cell CB2.out
        have him := image_any w5 (HG.out.ex hx5) x.length (by have := HLN.out; omega) pl sl x _ _ _ (HP3.out.ex hx5) (HS3.out.ex hx5) (HX3'.out.ex hx5) fn (by omega) (by have := HLN.out; omega) (by have := HLN.out; omega) rfl (by rw [HLN.out]; exact n5)
        have HIM := hid_ him
        have HX5 := hid_ (HX3.out.trans hx5)
        clear him hx5
        go_wp2_with fail
        refine HIM.out.mono ?_
        rintro e w6 ⟨g, rfl, ho6, hx6⟩
        go_wp2_with fail
        go_ret2
        exact ⟨⟨_, rfl, ho6.isl⟩, HX5.out.trans hx6⟩
    · have e1 : ((x.length : Int) != (pl.length : Int)) = true := by simp; omega
      rw [if_pos hl] at hWD
      subst hWD
      rw [if_pos (by decide)] at hLD
      subst hLD
      clear hl
      go_wp2_with fail
      go_ret2
      exact ⟨⟨_, rfl, isl_nil _⟩, HX3.out⟩
  · rw [if_pos h0] at hWD
    subst hWD
    rw [if_pos h0] at hLD
    subst hLD
    have hb : (E != 0) = true := by simpa using h0
    have b0 := hx2.cell B0.out
    clear h0
    go_wp2_with fail
    go_ret2
    exact ⟨⟨_, rfl, isl_nil _⟩, (HE.out.trans hx2).alloc _⟩
end Go.Proofs.YtgdmlmhpineibaaGreat
namespace Go.Proofs.YtgdmlmhpineibaaGreat
set_option linter.unusedVariables false
set_option linter.unusedSimpArgs false
open Go.RowKit

def pI (piv : List Nat) : List Int := piv.map fun (x : Nat) => (x : Int)
theorem pI_len (piv : List Nat) : (pI piv).length = piv.length := by unfold pI; simp
theorem ownsRow_heap {w w' : World} {base : Nat} {e : TypeId} {size : Nat} {v : Value} {n : Nat} {xs : List Value} (h : w.ownsRow base e size v n xs) (hk : ∀ b, v.ownBlock = some b → w'.heap[b]? = w.heap[b]?) : w'.ownsRow base e size v n xs := by
  refine ⟨h.1, ?_⟩
  rcases h.2 with h1 | ⟨g, cap, cur, rfl, hb, hg, h3⟩
  · exact .inl h1
  · exact .inr ⟨g, cap, cur, rfl, hb, by rw [hk g rfl]; exact hg, h3⟩
def AV (pv : Value) (B4 B5 B7 : Nat) : List Nat := pv.ownBlock.toList ++ [B4, B5, B7]
structure EB (w0 w : World) (base g R N : Nat) (blk cap : Nat → Nat) (a : Nat → Nat → Int) (avs : List Nat) (B4 B5 B7 b : Nat) (pv : Value) (piv : List Nat) : Prop where
  em : EM w base g R N blk cap a avs
  i4 : B4 ∈ avs
  i5 : B5 ∈ avs
  i7 : B7 ∈ avs
  c4 : w.cell? ⟨B4, 0, none⟩ = some (.pointer (some ⟨b, 0, none⟩))
  c5 : w.cell? ⟨B5, 0, none⟩ = some (.slice (some ⟨g, 0, none⟩) R R)
  c7 : w.cell? ⟨B7, 0, none⟩ = some (.slice none 0 0)
  pvo : w.ownsRow base 3 1 pv piv.length (ints (pI piv))
  pvi : ∀ B, pv.ownBlock = some B → B ∈ avs ∧ B ≠ B4 ∧ B ≠ B5 ∧ B ≠ B7
  ex : Ex w0 w
  bs : w0.heap.size ≤ base
section
variable {w0 w : World} {base g R N : Nat} {blk cap : Nat → Nat} {a : Nat → Nat → Int} {avs : List Nat} {B4 B5 B7 b : Nat} {pv : Value} {piv : List Nat}
theorem EB.later (h : EB w0 w base g R N blk cap a avs B4 B5 B7 b pv piv) {w' : World} (hx : Ex w w') : EB w0 w' base g R N blk cap a avs B4 B5 B7 b pv piv :=
  ⟨h.em.ex hx, h.i4, h.i5, h.i7, hx.cell h.c4, hx.cell h.c5, hx.cell h.c7, ownsRow_ex h.pvo hx, h.pvi, h.ex.trans hx, h.bs⟩
theorem EB.box (h : EB w0 w base g R N blk cap a avs B4 B5 B7 b pv piv) (o : Obj) : EB w0 (w.alloc o) base g R N blk cap a (w.heap.size :: avs) B4 B5 B7 b pv piv := by
  have h1 := h.later ((Ex.refl w).alloc o)
  exact ⟨h.em.box o, List.mem_cons_of_mem _ h.i4, List.mem_cons_of_mem _ h.i5, List.mem_cons_of_mem _ h.i7, h1.c4, h1.c5, h1.c7, h1.pvo, fun B hB => by obtain ⟨k1, k2⟩ := h.pvi B hB; exact ⟨List.mem_cons_of_mem _ k1, k2⟩, h1.ex, h1.bs⟩
theorem EB.less (h : EB w0 w base g R N blk cap a avs B4 B5 B7 b pv piv) {bvs : List Nat} (hs : ∀ B ∈ bvs, B ∈ avs) (h4 : B4 ∈ bvs) (h5 : B5 ∈ bvs) (h7 : B7 ∈ bvs) (hp : ∀ B, pv.ownBlock = some B → B ∈ bvs) : EB w0 w base g R N blk cap a bvs B4 B5 B7 b pv piv :=
  ⟨h.em.less hs, h4, h5, h7, h.c4, h.c5, h.c7, h.pvo, fun B hB => ⟨hp B hB, (h.pvi B hB).2⟩, h.ex, h.bs⟩
theorem EB.toAV (h : EB w0 w base g R N blk cap a avs B4 B5 B7 b pv piv) : EB w0 w base g R N blk cap a (AV pv B4 B5 B7) B4 B5 B7 b pv piv := by
  refine h.less (fun B hB => ?_) (by unfold AV; simp) (by unfold AV; simp) (by unfold AV; simp) (fun B hB => by unfold AV; rw [hB]; simp)
  unfold AV at hB
  rcases List.mem_append.1 hB with hB | hB
  · have : pv.ownBlock = some B := by
      cases e : pv.ownBlock with
      | none => rw [e] at hB; simp at hB
      | some C => rw [e] at hB; simp at hB; rw [hB]
    exact (h.pvi B this).1
  · simp at hB
    rcases hB with rfl | rfl | rfl
    · exact h.i4
    · exact h.i5
    · exact h.i7
theorem EB.step (h : EB w0 w base g R N blk cap a avs B4 B5 B7 b pv piv) {a' : Nat → Nat → Int} {r : Ending} {w' : World} (hs : Stp w base g R N a' avs r w') : ∃ blk' cap', EB w0 w' base g R N blk' cap' a' avs B4 B5 B7 b pv piv := by
  obtain ⟨_, ⟨blk', cap', he⟩, hk, hx⟩ := hs
  exact ⟨blk', cap', he, h.i4, h.i5, h.i7, hk.cell h.i4 h.c4, hk.cell h.i5 h.c5, hk.cell h.i7 h.c7, ownsRow_heap h.pvo fun B hB => hk B (h.pvi B hB).1, h.pvi, hx w0 h.ex h.bs, h.bs⟩
/-- A store into the block of a variable of the round. -/
theorem EB.setB (h : EB w0 w base g R N blk cap a avs B4 B5 B7 b pv piv) {B : Nat} (hB : B ∈ avs) (h4 : B ≠ B4) (h5 : B ≠ B5) (h7 : B ≠ B7) (hp : pv.ownBlock ≠ some B) (hw : w0.heap.size ≤ B) (u : Value) : EB w0 (w.setCell ⟨B, 0, none⟩ u) base g R N blk cap a avs B4 B5 B7 b pv piv :=
  ⟨h.em.setBox hB u, h.i4, h.i5, h.i7, by rw [cell_setCell_ne h4]; exact h.c4, by rw [cell_setCell_ne h5]; exact h.c5, by rw [cell_setCell_ne h7]; exact h.c7, ownsRow_setCell_ne h.pvo hp u, h.pvi, h.ex.setCell (p := ⟨B, 0, none⟩) hw u, h.bs⟩
/-- A pivot more. -/
theorem EB.app (h : EB w0 w base g R N blk cap a avs B4 B5 B7 b pv piv) {c : Nat} {w' : World} {pv' : Value} (ha : Appd w w' base 3 1 pv pv' piv.length (ints (pI piv)) [.int .i64 c]) : EB w0 w' base g R N blk cap a (AV pv' B4 B5 B7) B4 B5 B7 b pv' (piv ++ [c]) := by
  have hne : ∀ B ∈ avs, (∀ C, pv.ownBlock = some C → C ≠ B) → some B ≠ pv.ownBlock := fun B _ hn e => hn B e.symm rfl
  have n4 : some B4 ≠ pv.ownBlock := fun e => (h.pvi B4 e.symm).2.1 rfl
  have n5 : some B5 ≠ pv.ownBlock := fun e => (h.pvi B5 e.symm).2.2.1 rfl
  have n7 : some B7 ≠ pv.ownBlock := fun e => (h.pvi B7 e.symm).2.2.2 rfl
  have ng : pv.ownBlock ≠ some g := fun e => (h.em.av g (h.pvi g e).1).2.1 rfl
  have nb : ∀ i, i < R → pv.ownBlock ≠ some (blk i) := fun i hi e => (h.em.av _ (h.pvi _ e).1).2.2 i hi rfl
  have hsz := ha.grow
  have l4 := (h.em.av B4 h.i4)
  have l5 := (h.em.av B5 h.i5)
  have l7 := (h.em.av B7 h.i7)
  have pnew : ∀ B, pv'.ownBlock = some B → (pv.ownBlock = some B) ∨ B = w.heap.size + 1 := fun B hB => by
    rcases ha.at_ with k | k
    · exact .inl (by rw [← k]; exact hB)
    · rw [k] at hB; injection hB with hB; exact .inr hB.symm
  have row' : ∀ i, i < R → OwnC w' base 3 (blk i) N (cap i) (iv (a i)) := fun i hi => (ha.row (h.em.row i hi) (.inr (fun e => nb i hi e.symm))).1
  have arr' : Own w' base 22 g R (rowV blk cap N) := (ha.arr h.em.arr ng).1
  refine ⟨⟨arr', row', h.em.apart, h.em.off, fun B hB => ?_⟩, by unfold AV; simp, by unfold AV; simp, by unfold AV; simp, ha.cell h.c4 n4, ha.cell h.c5 n5, ha.cell h.c7 n7, ?_, fun B hB => ⟨by unfold AV; rw [hB]; simp, ?_⟩, ha.ex h.ex h.bs, h.bs⟩
  · unfold AV at hB
    rcases List.mem_append.1 hB with hB | hB
    · have hB' : pv'.ownBlock = some B := by
        cases e : pv'.ownBlock with
        | none => rw [e] at hB; simp at hB
        | some C => rw [e] at hB; simp at hB; rw [hB]
      refine ⟨(ha.own.lt B hB').2, ?_, fun i hi => ?_⟩
      · rcases pnew B hB' with k | k
        · exact (h.em.av B (h.pvi B k).1).2.1
        · have := h.em.arr.lt.2; omega
      · rcases pnew B hB' with k | k
        · exact (h.em.av B (h.pvi B k).1).2.2 i hi
        · have := (h.em.row i hi).lt.2; omega
    · simp at hB
      rcases hB with rfl | rfl | rfl
      · exact ⟨by omega, l4.2⟩
      · exact ⟨by omega, l5.2⟩
      · exact ⟨by omega, l7.2⟩
  · have := ha.own
    rw [List.length_append, List.length_singleton]
    have e : ints (pI (piv ++ [c])) = ints (pI piv) ++ [.int .i64 c] := by simp [pI, ints]
    rw [e]; exact this
  · rcases pnew B hB with k | k
    · exact (h.pvi B k).2
    · omega
end
end Go.Proofs.YtgdmlmhpineibaaGreat
