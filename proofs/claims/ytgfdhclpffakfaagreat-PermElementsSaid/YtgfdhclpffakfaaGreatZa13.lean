/- The tower in memory; walks of newTower's clone of slices, strip. -/
import Derived.Test.YtgfdhclpffakfaaGreatZa12
namespace Go.Proofs.YtgfdhclpffakfaaGreat
set_option linter.unusedVariables false
set_option linter.unusedSimpArgs false
open Go.RowKit

/-- The world has grown, and of what was there only the blocks of a list have turned; the list has grown by new blocks. -/
structure Mx (mb mb' : List Nat) (w w' : World) : Prop where
  os : w'.os = w.os
  tape : w'.tape = w.tape
  output : w'.output = w.output
  size : w.heap.size ≤ w'.heap.size
  block : ∀ i, i < w.heap.size → i ∉ mb → w'.heap[i]? = w.heap[i]?
  mb : ∀ B ∈ mb', B ∈ mb ∨ w.heap.size ≤ B
theorem Mx.ofEx {w w' : World} (h : Ex w w') (mb : List Nat) : Mx mb mb w w' := ⟨h.os, h.tape, h.output, h.size, fun i hi _ => h.block i hi, fun B h => .inl h⟩
theorem Mx.trans {a b c : List Nat} {u v w : World} (h : Mx a b u v) (k : Mx b c v w) : Mx a c u w :=
  ⟨k.os.trans h.os, k.tape.trans h.tape, k.output.trans h.output, Nat.le_trans h.size k.size, fun i hi hn => by
    rw [k.block i (Nat.lt_of_lt_of_le hi h.size) (fun hb => by
      rcases h.mb i hb with h1 | h1
      · exact hn h1
      · omega), h.block i hi hn], fun B hB => by
    rcases k.mb B hB with h1 | h1
    · exact h.mb B h1
    · exact .inr (Nat.le_trans h.size h1)⟩
theorem Mx.ex {mb mb' : List Nat} {w0 w w' : World} (h : Mx mb mb' w w') (hx : Ex w0 w) (hb : ∀ B ∈ mb, w0.heap.size ≤ B) : Ex w0 w' :=
  ⟨h.os.trans hx.os, h.tape.trans hx.tape, h.output.trans hx.output, Nat.le_trans hx.size h.size, fun i hi => by
    rw [h.block i (Nat.lt_of_lt_of_le hi hx.size) (fun h1 => by have := hb i h1; omega)]
    exact hx.block i hi⟩
theorem Mx.cell {mb mb' : List Nat} {w w' : World} (h : Mx mb mb' w w') {a : Addr} {u : Value} (hc : w.cell? a = some u) (hn : a.block ∉ mb) : w'.cell? a = some u := by
  rw [← hc]
  exact World.cell?_of_block (h.block a.block (World.block_lt_of_cell? _ _ hc) hn)
/-- A permutation's slice, off the blocks of a list. -/
structure PV (w : World) (mb : List Nat) (n : Nat) (u : Value) (f : Nat → Nat) : Prop where
  sl : ISl w u (li n f)
  at_ : ∃ b o cap, u = .slice (some ⟨b, o, none⟩) n cap ∧ cap ≤ maxLen ∧ b ∉ mb ∧ b < w.heap.size ∧ ∀ j, j < n → w.cell? ⟨b, o + j, none⟩ = some (.int .i64 (f j : Int))
theorem PV.of {w : World} {mb : List Nat} {n : Nat} {u : Value} {f : Nat → Nat} (h : ISl w u (li n f)) (hn : 1 ≤ n) (hb : ∀ B, u.ownBlock = some B → B ∉ mb) : PV w mb n u f := by
  refine ⟨h, ?_⟩
  obtain ⟨a, cap, rfl, h1, h2, h3⟩ := isl_li h
  obtain ⟨b, o, rfl, h4⟩ := h3 hn
  exact ⟨b, o, cap, rfl, h2, hb b rfl, World.block_lt_of_cell? _ _ (h4 0 hn), h4⟩
theorem PV.mx {mb mb' : List Nat} {w w' : World} {n : Nat} {u : Value} {f : Nat → Nat} (h : PV w mb n u f) (hx : Mx mb mb' w w') : PV w' mb' n u f := by
  obtain ⟨b, o, cap, rfl, h1, h2, h3, h4⟩ := h.at_
  have hs : ISl w' (.slice (some ⟨b, o, none⟩) n cap) (li n f) := by
    obtain ⟨k1, a, c, k2, k3, k4, k5⟩ := h.sl
    refine ⟨k1, a, c, k2, k3, k4, fun hn => ?_⟩
    obtain ⟨b', o', k6, k7⟩ := k5 hn
    injection k2 with k2 _ _
    rw [k6] at k2
    injection k2 with k2
    injection k2 with k2 k8
    subst k2 k8
    exact ⟨b, o, k6, fun j u hu => hx.cell (k7 j u hu) h2⟩
  refine ⟨hs, b, o, cap, rfl, h1, fun hb => ?_, Nat.lt_of_lt_of_le h3 hx.size, fun j hj => hx.cell (h4 j hj) h2⟩
  rcases hx.mb b hb with h5 | h5
  · exact h2 h5
  · omega
theorem PV.ex {mb : List Nat} {w w' : World} {n : Nat} {u : Value} {f : Nat → Nat} (h : PV w mb n u f) (hx : Ex w w') : PV w' mb n u f := h.mx (Mx.ofEx hx mb)
/-- A permutation that a call has just made. -/
theorem PV.new {mb : List Nat} {w w' : World} {n g : Nat} {f : Nat → Nat} (hn : 1 ≤ n) (h : Own w' w.heap.size 3 g n (iv fun i => (f i : Int))) (hb : ∀ B ∈ mb, B < w.heap.size) : PV w' mb n (.slice (some ⟨g, 0, none⟩) n n) f :=
  PV.of h.li hn fun B e hB => by
    injection e with e
    have := h.lt.1
    have := hb B hB
    dsimp only at *
    omega
/-- What a cell of representatives holds. -/
def RepV (w : World) (mb : List Nat) (n : Nat) (o : Option (Nat → Nat)) (u : Value) : Prop := match o with
  | none => u = .slice none 0 0
  | some r => PV w mb n u r
theorem RepV.mx {mb mb' : List Nat} {w w' : World} {n : Nat} {o : Option (Nat → Nat)} {u : Value} (h : RepV w mb n o u) (hx : Mx mb mb' w w') : RepV w' mb' n o u := by
  cases o with
  | none => exact h
  | some r => exact PV.mx (show PV w mb n u r from h) hx
/-- The tower in memory. -/
structure TwM (w : World) (base n tb rb gb : Nat) (rr : Nat → Nat) (gv : Nat → Value) (V : Nat → Nat → Value) (mb : List Nat) (t : Tw) : Prop where
  c0 : w.cell? ⟨tb, 0, none⟩ = some (.int .i64 n)
  c1 : w.cell? ⟨tb, 1, none⟩ = some (.slice (some ⟨rb, 0, none⟩) n n)
  c2 : w.cell? ⟨tb, 2, none⟩ = some (.slice (some ⟨gb, 0, none⟩) n n)
  tm : tb ∉ mb
  ro : ∀ b, b < n → w.cell? ⟨rb, b, none⟩ = some (.slice (some ⟨rr b, 0, none⟩) n n)
  rm : rb ∉ mb
  row : ∀ b, b < n → Own w base 32 (rr b) n (V b)
  rep : ∀ b x, b < n → x < n → RepV w mb n (t.R b x) (V b x)
  go : Own w base 46 gb n gv
  gro : ∀ b, b < n → ∃ vals : List Value, w.ownsRow base 32 1 (gv b) (t.g b).length vals ∧ ∀ (i : Nat) (f : Nat → Nat) (u : Value), (t.g b)[i]? = some f → vals[i]? = some u → PV w mb n u f
  gm : gb ∈ mb
  rrm : ∀ b, b < n → rr b ∈ mb
  gvm : ∀ b B, b < n → (gv b).ownBlock = some B → B ∈ mb ∧ B ≠ gb ∧ ∀ c, c < n → B ≠ rr c
  grr : ∀ b, b < n → gb ≠ rr b
  rri : ∀ b c, b < n → c < n → rr b = rr c → b = c
  gvi : ∀ b c B, b < n → c < n → (gv b).ownBlock = some B → (gv c).ownBlock = some B → b = c
  lo : ∀ B ∈ mb, base ≤ B ∧ B < w.heap.size
section
variable {w : World} {base n tb rb gb : Nat} {rr : Nat → Nat} {gv : Nat → Value} {V : Nat → Nat → Value} {mb : List Nat} {t : Tw}
theorem TwM.ex (h : TwM w base n tb rb gb rr gv V mb t) {w' : World} (hx : Ex w w') : TwM w' base n tb rb gb rr gv V mb t :=
  ⟨hx.cell h.c0, hx.cell h.c1, hx.cell h.c2, h.tm, fun b hb => hx.cell (h.ro b hb), h.rm, fun b hb => (h.row b hb).ex hx, fun b x hb hx' => (h.rep b x hb hx').mx (Mx.ofEx hx mb), h.go.ex hx, fun b hb => by
    obtain ⟨vals, h1, h2⟩ := h.gro b hb
    exact ⟨vals, ownsRow_ex h1 hx, fun i f u a c => (h2 i f u a c).ex hx⟩, h.gm, h.rrm, h.gvm, h.grr, h.rri, h.gvi, fun B hB => ⟨(h.lo B hB).1, Nat.lt_of_lt_of_le (h.lo B hB).2 hx.size⟩⟩
theorem TwM.low (h : TwM w base n tb rb gb rr gv V mb t) : ∀ B ∈ mb, B < w.heap.size := fun B hB => (h.lo B hB).2
/-- Storing a representative. -/
theorem TwM.setRep (h : TwM w base n tb rb gb rr gv V mb t) {b x : Nat} {q : Nat → Nat} {u : Value} (hb : b < n) (hx : x < n) (hu : PV w mb n u q) :
    TwM (w.setCell ⟨rr b, x, none⟩ u) base n tb rb gb rr gv (fun c => if c = b then upd (V b) x u else V c) mb (setR t b x q) ∧ Mx mb mb w (w.setCell ⟨rr b, x, none⟩ u) := by
  have hm := h.rrm b hb
  have hsz : (w.setCell ⟨rr b, x, none⟩ u).heap.size = w.heap.size := by simp [World.setCell]
  have hMx : Mx mb mb w (w.setCell ⟨rr b, x, none⟩ u) := ⟨rfl, rfl, rfl, by omega, fun i hi hn => Below.heap_setCell _ _ _ _ (fun e => hn (by have e : i = rr b := e; rw [e]; exact hm)), fun B hB => .inl hB⟩
  refine ⟨⟨hMx.cell h.c0 h.tm, hMx.cell h.c1 h.tm, hMx.cell h.c2 h.tm, h.tm, fun c hc => hMx.cell (h.ro c hc) h.rm, h.rm, fun c hc => ?_, fun c y hc hy => ?_, h.go.other (h.grr b hb) u, fun c hc => ?_, h.gm, h.rrm, h.gvm, h.grr, h.rri, h.gvi, fun B hB => by rw [hsz]; exact h.lo B hB⟩, hMx⟩
  · by_cases e : c = b
    · subst e; rw [if_pos rfl]; exact (h.row c hc).set x u
    · rw [if_neg e]; exact (h.row c hc).other (fun e2 => e (h.rri c b hc hb e2)) u
  · show RepV _ mb n (if c = b ∧ y = x then some q else t.R c y) ((if c = b then upd (V b) x u else V c) y)
    by_cases e : c = b
    · subst e
      rw [if_pos rfl]
      by_cases e2 : y = x
      · subst e2; rw [if_pos ⟨rfl, rfl⟩, upd_same]; exact PV.mx hu hMx
      · rw [if_neg (fun e3 => e2 e3.2), upd_ne _ _ e2]; exact (h.rep c y hc hy).mx hMx
    · rw [if_neg (fun e3 => e e3.1), if_neg e]; exact (h.rep c y hc hy).mx hMx
  · obtain ⟨vals, h1, h2⟩ := h.gro c hc
    exact ⟨vals, ownsRow_setCell_ne h1 (fun e => (h.gvm c _ hc e).2.2 b hb rfl) u, fun i f v a d => (h2 i f v a d).mx hMx⟩
/-- Adding a generator: w' the world behind the append, before the store. -/
theorem TwM.addGen (h : TwM w base n tb rb gb rr gv V mb t) {b : Nat} {p : Nat → Nat} {u : Value} (hb : b < n) (hu : PV w mb n u p) {w' : World} {v' : Value} {vals : List Value} (hv : ∀ (i : Nat) (f : Nat → Nat) (u : Value), (t.g b)[i]? = some f → vals[i]? = some u → PV w mb n u f)
    (ha : Appd w w' base 32 1 (gv b) v' (t.g b).length vals [u]) :
    ∃ mb', TwM (w'.setCell ⟨gb, b, none⟩ v') base n tb rb gb rr (upd gv b v') V mb' (addG t b p) ∧ Mx mb mb' w (w'.setCell ⟨gb, b, none⟩ v') := by
  obtain ⟨o, hg⟩ := ha.gr
  have hgs := ha.grow
  have hbk : ∀ B, v'.ownBlock = some B → B ∈ mb ∨ w.heap.size < B := fun B e => by
    rcases ha.at_ with h1 | h1
    · rw [h1] at e; exact .inl (h.gvm b B hb e).1
    · rw [h1] at e; injection e with e; right; omega
  have hblk : ∀ i, i < w.heap.size → some i ≠ (gv b).ownBlock → w'.heap[i]? = w.heap[i]? := fun i hi hne => by
    have h1 := hg.block i (by simp; omega) hne
    rw [h1]
    exact ((Ex.refl w).alloc o).block i hi
  have hsz : (w'.setCell ⟨gb, b, none⟩ v').heap.size = w'.heap.size := by simp [World.setCell]
  have hvl := ha.own.lt
  have hos : w'.os = w.os ∧ w'.tape = w.tape ∧ w'.output = w.output := ⟨hg.os.trans rfl, hg.tape.trans rfl, hg.output.trans rfl⟩
  have hMx : Mx mb (v'.ownBlock.toList ++ mb) w (w'.setCell ⟨gb, b, none⟩ v') := by
    refine ⟨hos.1, hos.2.1, hos.2.2, by rw [hsz]; omega, fun i hi hn => ?_, fun B hB => ?_⟩
    · rw [Below.heap_setCell _ _ _ _ (fun e => hn (by have e : i = gb := e; rw [e]; exact h.gm)), hblk i hi (fun e => hn (h.gvm b i hb e.symm).1)]
    · rcases List.mem_append.1 hB with h1 | h1
      · rcases hbk B (by simpa using h1) with h2 | h2
        · exact .inl h2
        · exact .inr (by omega)
      · exact .inl h1
  have hold : ∀ {e : TypeId} {size : Nat} {v : Value} {m : Nat} {xs : List Value}, w.ownsRow base e size v m xs → Aprt v (gv b) → v.ownBlock ≠ some gb → (w'.setCell ⟨gb, b, none⟩ v').ownsRow base e size v m xs := fun k hk hne =>
    ownsRow_setCell_ne (ha.row k hk).1 (by exact hne) _
  have hne_g : ∀ B, (gv b).ownBlock = some B → B ≠ gb ∧ ∀ c, c < n → B ≠ rr c := fun B e => (h.gvm b B hb e).2
  have apr : ∀ g, (∀ B, (gv b).ownBlock = some B → B ≠ g) → ∀ (m cap : Nat), Aprt (.slice (some ⟨g, 0, none⟩) m cap) (gv b) := fun g hh m cap => by
    right
    intro e
    exact hh g e.symm rfl
  refine ⟨v'.ownBlock.toList ++ mb, ⟨hMx.cell h.c0 h.tm, hMx.cell h.c1 h.tm, hMx.cell h.c2 h.tm, fun hc => ?_, fun c hc => hMx.cell (h.ro c hc) h.rm, fun hc => ?_, fun c hc => ?_, fun c y hc hy => (h.rep c y hc hy).mx hMx, ?_, fun c hc => ?_, List.mem_append_right _ h.gm, fun c hc => List.mem_append_right _ (h.rrm c hc), fun c B hc e => ?_, h.grr, h.rri, fun c d B hc hd e1 e2 => ?_, fun B hB => ?_⟩, hMx⟩
  · rcases hMx.mb tb hc with h1 | h1
    · exact h.tm h1
    · have := World.block_lt_of_cell? _ _ h.c0; dsimp only at this; omega
  · rcases hMx.mb rb hc with h1 | h1
    · exact h.rm h1
    · have := World.block_lt_of_cell? _ _ (h.ro b hb); dsimp only at this; omega
  · exact hold (h.row c hc) (apr (rr c) (fun B e => (hne_g B e).2 c hc) n n) (fun e => h.grr c hc (by injection e with e; exact e.symm))
  · have h1 := (ha.row h.go (apr gb (fun B e => (hne_g B e).1) n n)).1
    have h2 : Own w' base 46 gb n gv := h1
    exact h2.set b v'
  · by_cases e : c = b
    · subst e
      refine ⟨vals ++ [u], ?_, fun i f v h1 h2 => ?_⟩
      · rw [upd_same]
        show World.ownsRow _ base 32 1 v' (if c = c then t.g c ++ [p] else t.g c).length (vals ++ [u])
        rw [if_pos rfl, List.length_append]
        refine ownsRow_setCell_ne ha.own (fun e => ?_) _
        rcases ha.at_ with h3 | h3
        · rw [h3] at e; exact (hne_g _ e).1 rfl
        · rw [h3] at e
          injection e with e
          have := h.go.lt.2
          dsimp only at e
          omega
      · have h1 : (if c = c then t.g c ++ [p] else t.g c)[i]? = some f := h1
        rw [if_pos rfl] at h1
        have hn : vals.length = (t.g c).length := by have := ha.old.1; omega
        by_cases hi : i < (t.g c).length
        · rw [List.getElem?_append_left hi] at h1
          rw [List.getElem?_append_left (by omega)] at h2
          exact (hv i f v h1 h2).mx hMx
        · have hi' : i = (t.g c).length := by
            have := (List.getElem?_eq_some_iff.1 h1).1
            rw [List.length_append] at this
            simp at this; omega
          subst hi'
          rw [List.getElem?_append_right (by omega)] at h1
          rw [List.getElem?_append_right (by omega), hn] at h2
          simp at h1 h2
          subst h1 h2
          exact hu.mx hMx
    · obtain ⟨vs', h1, h2⟩ := h.gro c hc
      refine ⟨vs', ?_, fun i f v h3 h4 => ?_⟩
      · rw [upd_ne _ _ e]
        show World.ownsRow _ base 32 1 (gv c) (if c = b then t.g c ++ [p] else t.g c).length vs'
        rw [if_neg e]
        refine hold h1 ?_ (fun e2 => (h.gvm c _ hc e2).2.1 rfl)
        unfold Aprt
        cases e2 : (gv c).ownBlock with
        | none => exact .inl rfl
        | some B => right; intro e3; exact e (h.gvi c b B hc hb e2 e3.symm)
      · have h3 : (if c = b then t.g c ++ [p] else t.g c)[i]? = some f := h3
        rw [if_neg e] at h3
        exact (h2 i f v h3 h4).mx hMx
  · by_cases e3 : c = b
    · subst e3
      rw [upd_same] at e
      refine ⟨List.mem_append_left _ (by rw [e]; simp), ?_⟩
      rcases ha.at_ with h1 | h1
      · rw [h1] at e; exact hne_g B e
      · rw [h1] at e
        injection e with e
        subst e
        have := h.go.lt.2
        exact ⟨by omega, fun d hd => by have := (h.row d hd).lt.2; omega⟩
    · rw [upd_ne _ _ e3] at e
      have := h.gvm c B hc e
      exact ⟨List.mem_append_right _ this.1, this.2⟩
  · have key : ∀ {c d B}, c = b → d ≠ b → d < n → v'.ownBlock = some B → (gv d).ownBlock = some B → False := fun {c d B} e hd hdn k1 k2 => by
      rcases ha.at_ with h1 | h1
      · rw [h1] at k1; exact hd (h.gvi d b B hdn hb k2 k1)
      · rw [h1] at k1
        injection k1 with k1
        have := (h.lo B (h.gvm d B hdn k2).1).2
        omega
    by_cases ec : c = b <;> by_cases ed : d = b
    · rw [ec, ed]
    · rw [ec, upd_same] at e1; rw [upd_ne _ _ ed] at e2; exact (key (c := c) ec ed hd e1 e2).elim
    · rw [upd_ne _ _ ec] at e1; rw [ed, upd_same] at e2; exact (key (c := d) ed ec hc e2 e1).elim
    · rw [upd_ne _ _ ec] at e1; rw [upd_ne _ _ ed] at e2; exact h.gvi c d B hc hd e1 e2
  · rw [hsz]
    rcases List.mem_append.1 hB with h1 | h1
    · exact hvl B (by simpa using h1)
    · have := h.lo B h1; exact ⟨this.1, by omega⟩
end
end Go.Proofs.YtgfdhclpffakfaaGreat
