/- A level under way: its box, orbit and representatives. -/
import Derived.Test.YtgfdhclpffakfaaGreatZa20
namespace Go.Proofs.YtgfdhclpffakfaaGreat
set_option linter.unusedVariables false
set_option linter.unusedSimpArgs false
open Go.RowKit

/-- An append to a slice among the mutable blocks, and a store into one of them. -/
theorem mx_app {mb : List Nat} {w w1 : World} {base : Nat} {e : TypeId} {size : Nat} {v v' : Value} {n : Nat} {xs news : List Value} (ha : Appd w w1 base e size v v' n xs news) (hv : ∀ B, v.ownBlock = some B → B ∈ mb) {cb j : Nat} {u : Value} (hc : cb ∈ mb) :
    Mx mb (v'.ownBlock.toList ++ mb) w (w1.setCell ⟨cb, j, none⟩ u) := by
  obtain ⟨o, hg⟩ := ha.gr
  have hgs := ha.grow
  have hsz : (w1.setCell ⟨cb, j, none⟩ u).heap.size = w1.heap.size := by simp [World.setCell]
  refine ⟨hg.os.trans rfl, hg.tape.trans rfl, hg.output.trans rfl, by rw [hsz]; omega, fun i hi hn => ?_, fun B hB => ?_⟩
  · rw [Below.heap_setCell _ _ _ _ (fun e => hn (by have e : i = cb := e; rw [e]; exact hc))]
    rw [hg.block i (by simp; omega) (fun e => hn (hv i e.symm))]
    exact ((Ex.refl w).alloc o).block i hi
  · rcases List.mem_append.1 hB with h1 | h1
    · have h1 : v'.ownBlock = some B := by simpa using h1
      rcases ha.at_ with h2 | h2
      · rw [h2] at h1; exact .inl (hv B h1)
      · rw [h2] at h1; injection h1 with h1; exact .inr (by omega)
    · exact .inl h1
theorem frz_set (w : World) (a b : Addr) (u : Value) : (w.setCell a u).frozen? b = w.frozen? b := by simp
/-- The chain's box and a level under way. -/
structure LvS (w0 wr : World) (q n b ob lb : Nat) (lv : Value) (L : List Lv) (os : List (Value × Value)) (ov : Value) (orb : List Int) (rv : Value) (reps : List (List Int)) (vals : List Value) (mb : List Nat) : Prop where
  oc0 : wr.cell? ⟨ob, 0, none⟩ = some (.int .i64 n)
  oc1 : wr.cell? ⟨ob, 1, none⟩ = some lv
  of1 : wr.frozen? ⟨ob, 1, none⟩ = false
  lc0 : wr.cell? ⟨lb, 0, none⟩ = some (.int .i64 b)
  lc1 : wr.cell? ⟨lb, 1, none⟩ = some ov
  lc2 : wr.cell? ⟨lb, 2, none⟩ = some rv
  lf1 : wr.frozen? ⟨lb, 1, none⟩ = false
  lf2 : wr.frozen? ⟨lb, 2, none⟩ = false
  ne : ob ≠ lb
  ch : ChM wr w0.heap.size q mb lv L os
  ovo : wr.ownsRow w0.heap.size 3 1 ov orb.length (ints orb)
  rvo : wr.ownsRow w0.heap.size 32 1 rv reps.length vals
  rows : ∀ (i : Nat) (r : List Int) (u : Value), reps[i]? = some r → vals[i]? = some u → SI wr (q :: mb) u r
  a1 : Aprt ov lv
  a2 : Aprt rv lv
  a3 : Aprt ov rv
  nov : ∀ B, ov.ownBlock = some B → B ≠ ob ∧ B ≠ lb ∧ B ∈ mb
  nrv : ∀ B, rv.ownBlock = some B → B ≠ ob ∧ B ≠ lb ∧ B ∈ mb
  nlv : ∀ B, lv.ownBlock = some B → B ≠ ob ∧ B ≠ lb ∧ B ∈ mb
  om : ob ∈ mb
  ql : q < w0.heap.size
  lm : lb ∈ mb
  lo : ∀ B ∈ mb, w0.heap.size ≤ B ∧ B < wr.heap.size
  ex : Ex w0 wr
section
variable {w0 wr : World} {q n b ob lb : Nat} {lv : Value} {L : List Lv} {os : List (Value × Value)} {ov : Value} {orb : List Int} {rv : Value} {reps : List (List Int)} {vals : List Value} {mb : List Nat}
theorem LvS.later (h : LvS w0 wr q n b ob lb lv L os ov orb rv reps vals mb) {w' : World} (hx : Ex wr w') : LvS w0 w' q n b ob lb lv L os ov orb rv reps vals mb :=
  ⟨hx.cell h.oc0, hx.cell h.oc1, hx.frz h.oc1 h.of1, hx.cell h.lc0, hx.cell h.lc1, hx.cell h.lc2, hx.frz h.lc1 h.lf1, hx.frz h.lc2 h.lf2, h.ne, h.ch.ex hx, ownsRow_ex h.ovo hx, ownsRow_ex h.rvo hx, fun i r u a c => (h.rows i r u a c).mx (Mx.ofEx hx (q :: mb)), h.a1, h.a2, h.a3, h.nov, h.nrv, h.nlv, h.om, h.ql, h.lm, fun B hB => ⟨(h.lo B hB).1, Nat.lt_of_lt_of_le (h.lo B hB).2 hx.size⟩, h.ex.trans hx⟩
theorem LvS.appOrb (h : LvS w0 wr q n b ob lb lv L os ov orb rv reps vals mb) {w1 : World} {ov' : Value} {x : Int} (ha : Appd wr w1 w0.heap.size 3 1 ov ov' orb.length (ints orb) [.int .i64 x]) :
    ∃ mb', LvS w0 (w1.setCell ⟨lb, 1, none⟩ ov') q n b ob lb lv L os ov' (orb ++ [x]) rv reps vals mb' ∧ Mx mb mb' wr (w1.setCell ⟨lb, 1, none⟩ ov') := by
  have hmx := mx_app (j := 1) (u := ov') ha (fun B e => (h.nov B e).2.2) h.lm
  have hsz : (w1.setCell ⟨lb, 1, none⟩ ov').heap.size = w1.heap.size := by simp [World.setCell]
  have hgs := ha.grow
  have hnob : some ob ≠ ov.ownBlock := fun e => (h.nov ob e.symm).1 rfl
  have hnlb : some lb ≠ ov.ownBlock := fun e => (h.nov lb e.symm).2.1 rfl
  have obl := (h.lo ob h.om).2
  have lbl := (h.lo lb h.lm).2
  have hbk : ∀ B, ov'.ownBlock = some B → B ≠ ob ∧ B ≠ lb := fun B e => by
    rcases ha.at_ with h1 | h1
    · rw [h1] at e; exact ⟨(h.nov B e).1, (h.nov B e).2.1⟩
    · rw [h1] at e; injection e with e; omega
  have oset : ∀ {j : Nat} {v : Value}, w1.cell? ⟨ob, j, none⟩ = some v → (w1.setCell ⟨lb, 1, none⟩ ov').cell? ⟨ob, j, none⟩ = some v := fun k => by
    rw [World.cell?_setCell_other _ _ _ _ (by intro e; injection e with e; exact h.ne e.symm)]; exact k
  have lset : ∀ {j : Nat} {v : Value}, 1 ≠ j → w1.cell? ⟨lb, j, none⟩ = some v → (w1.setCell ⟨lb, 1, none⟩ ov').cell? ⟨lb, j, none⟩ = some v := fun hj k => by
    rw [cell_set_off hj]; exact k
  have keep : ∀ {e : TypeId} {size : Nat} {v : Value} {m : Nat} {xs : List Value}, wr.ownsRow w0.heap.size e size v m xs → Aprt v ov → (∀ B, v.ownBlock = some B → B ≠ lb) → (w1.setCell ⟨lb, 1, none⟩ ov').ownsRow w0.heap.size e size v m xs ∧ Aprt v ov' := fun k hk hb =>
    ⟨ownsRow_setCell_ne (ha.row k hk).1 (fun e => hb _ e rfl) _, (ha.row k hk).2⟩
  have hch := keep h.ch.own h.a1.symm (fun B e => (h.nlv B e).2.1)
  have hrv := keep h.rvo h.a3.symm (fun B e => (h.nrv B e).2.1)
  refine ⟨ov'.ownBlock.toList ++ mb, ⟨oset (ha.cell h.oc0 hnob), oset (ha.cell h.oc1 hnob), by rw [frz_set]; exact ha.frz h.oc1 h.of1 hnob, lset (by decide) (ha.cell h.lc0 hnlb), ?_, lset (by decide) (ha.cell h.lc2 hnlb), by rw [frz_set]; exact ha.frz h.lc1 h.lf1 hnlb, by rw [frz_set]; exact ha.frz h.lc2 h.lf2 hnlb, h.ne, h.ch.mx hmx hch.1 (fun B e => List.mem_append_right _ (h.nlv B e).2.2), ?_, hrv.1, fun i r u a c => (h.rows i r u a c).mx (hmx.cons q), hch.2.symm, h.a2, hrv.2.symm, fun B e => ⟨(hbk B e).1, (hbk B e).2, List.mem_append_left _ (by rw [e]; simp)⟩, fun B e => ⟨(h.nrv B e).1, (h.nrv B e).2.1, List.mem_append_right _ (h.nrv B e).2.2⟩, fun B e => ⟨(h.nlv B e).1, (h.nlv B e).2.1, List.mem_append_right _ (h.nlv B e).2.2⟩, List.mem_append_right _ h.om, h.ql, List.mem_append_right _ h.lm, fun B hB => ?_, hmx.ex h.ex (fun B hB => (h.lo B hB).1)⟩, hmx⟩
  · exact World.cell?_setCell_same _ _ _ (ha.cell h.lc1 hnlb)
  · have := ha.own
    rw [List.length_append]
    exact ownsRow_setCell_ne (by simpa [ints] using this) (fun e => (hbk _ e).2 rfl) _
  · rw [hsz]
    rcases List.mem_append.1 hB with h1 | h1
    · exact ha.own.lt B (by simpa using h1)
    · have := h.lo B h1; exact ⟨this.1, by omega⟩
theorem LvS.appRep (h : LvS w0 wr q n b ob lb lv L os ov orb rv reps vals mb) {w1 : World} {rv' z : Value} {r : List Int} (hz : SI wr (q :: mb) z r) (ha : Appd wr w1 w0.heap.size 32 1 rv rv' reps.length vals [z]) :
    ∃ mb', LvS w0 (w1.setCell ⟨lb, 2, none⟩ rv') q n b ob lb lv L os ov orb rv' (reps ++ [r]) (vals ++ [z]) mb' ∧ Mx mb mb' wr (w1.setCell ⟨lb, 2, none⟩ rv') := by
  have hmx := mx_app (j := 2) (u := rv') ha (fun B e => (h.nrv B e).2.2) h.lm
  have hsz : (w1.setCell ⟨lb, 2, none⟩ rv').heap.size = w1.heap.size := by simp [World.setCell]
  have hgs := ha.grow
  have hnob : some ob ≠ rv.ownBlock := fun e => (h.nrv ob e.symm).1 rfl
  have hnlb : some lb ≠ rv.ownBlock := fun e => (h.nrv lb e.symm).2.1 rfl
  have obl := (h.lo ob h.om).2
  have lbl := (h.lo lb h.lm).2
  have hbk : ∀ B, rv'.ownBlock = some B → B ≠ ob ∧ B ≠ lb := fun B e => by
    rcases ha.at_ with h1 | h1
    · rw [h1] at e; exact ⟨(h.nrv B e).1, (h.nrv B e).2.1⟩
    · rw [h1] at e; injection e with e; omega
  have oset : ∀ {j : Nat} {v : Value}, w1.cell? ⟨ob, j, none⟩ = some v → (w1.setCell ⟨lb, 2, none⟩ rv').cell? ⟨ob, j, none⟩ = some v := fun k => by
    rw [World.cell?_setCell_other _ _ _ _ (by intro e; injection e with e; exact h.ne e.symm)]; exact k
  have lset : ∀ {j : Nat} {v : Value}, 2 ≠ j → w1.cell? ⟨lb, j, none⟩ = some v → (w1.setCell ⟨lb, 2, none⟩ rv').cell? ⟨lb, j, none⟩ = some v := fun hj k => by
    rw [cell_set_off hj]; exact k
  have keep : ∀ {e : TypeId} {size : Nat} {v : Value} {m : Nat} {xs : List Value}, wr.ownsRow w0.heap.size e size v m xs → Aprt v rv → (∀ B, v.ownBlock = some B → B ≠ lb) → (w1.setCell ⟨lb, 2, none⟩ rv').ownsRow w0.heap.size e size v m xs ∧ Aprt v rv' := fun k hk hb =>
    ⟨ownsRow_setCell_ne (ha.row k hk).1 (fun e => hb _ e rfl) _, (ha.row k hk).2⟩
  have hch := keep h.ch.own h.a2.symm (fun B e => (h.nlv B e).2.1)
  have hov := keep h.ovo h.a3 (fun B e => (h.nov B e).2.1)
  have hvl : vals.length = reps.length := by have := h.rvo.1; omega
  refine ⟨rv'.ownBlock.toList ++ mb, ⟨oset (ha.cell h.oc0 hnob), oset (ha.cell h.oc1 hnob), by rw [frz_set]; exact ha.frz h.oc1 h.of1 hnob, lset (by decide) (ha.cell h.lc0 hnlb), lset (by decide) (ha.cell h.lc1 hnlb), ?_, by rw [frz_set]; exact ha.frz h.lc1 h.lf1 hnlb, by rw [frz_set]; exact ha.frz h.lc2 h.lf2 hnlb, h.ne, h.ch.mx hmx hch.1 (fun B e => List.mem_append_right _ (h.nlv B e).2.2), hov.1, ?_, fun i r' u a c => ?_, h.a1, hch.2.symm, hov.2, fun B e => ⟨(h.nov B e).1, (h.nov B e).2.1, List.mem_append_right _ (h.nov B e).2.2⟩, fun B e => ⟨(hbk B e).1, (hbk B e).2, List.mem_append_left _ (by rw [e]; simp)⟩, fun B e => ⟨(h.nlv B e).1, (h.nlv B e).2.1, List.mem_append_right _ (h.nlv B e).2.2⟩, List.mem_append_right _ h.om, h.ql, List.mem_append_right _ h.lm, fun B hB => ?_, hmx.ex h.ex (fun B hB => (h.lo B hB).1)⟩, hmx⟩
  · exact World.cell?_setCell_same _ _ _ (ha.cell h.lc2 hnlb)
  · have := ha.own
    rw [List.length_append]
    exact ownsRow_setCell_ne this (fun e => (hbk _ e).2 rfl) _
  · by_cases hi : i < reps.length
    · rw [List.getElem?_append_left hi] at a
      rw [List.getElem?_append_left (by omega)] at c
      exact (h.rows i r' u a c).mx (hmx.cons q)
    · rw [List.getElem?_append_right (by omega)] at a
      rw [List.getElem?_append_right (by omega)] at c
      have hi2 : i - reps.length = 0 := by
        have := (List.getElem?_eq_some_iff.1 a).1
        simp at this; omega
      rw [hi2] at a
      rw [hvl, hi2] at c
      simp at a c
      subst a c
      exact hz.mx (hmx.cons q)
  · rw [hsz]
    rcases List.mem_append.1 hB with h1 | h1
    · exact ha.own.lt B (by simpa using h1)
    · have := h.lo B h1; exact ⟨this.1, by omega⟩
end
/-- The chain's box between levels. -/
structure ChS (w0 wr : World) (q n ob : Nat) (lv : Value) (L : List Lv) (os : List (Value × Value)) (mb : List Nat) : Prop where
  oc0 : wr.cell? ⟨ob, 0, none⟩ = some (.int .i64 n)
  oc1 : wr.cell? ⟨ob, 1, none⟩ = some lv
  of1 : wr.frozen? ⟨ob, 1, none⟩ = false
  ch : ChM wr w0.heap.size q mb lv L os
  nlv : ∀ B, lv.ownBlock = some B → B ≠ ob
  om : ob ∈ mb
  ql : q < w0.heap.size
  lo : ∀ B ∈ mb, w0.heap.size ≤ B ∧ B < wr.heap.size
  ex : Ex w0 wr
/-- A level begins: its box is new. -/
theorem ChS.begin_ {w0 wr : World} {q n b ob : Nat} {lv : Value} {L : List Lv} {os : List (Value × Value)} {mb : List Nat} (h : ChS w0 wr q n ob lv L os mb) :
    LvS w0 (wr.alloc (.cells #[.int .i64 b, .slice none 0 0, .slice none 0 0] 56)) q n b ob wr.heap.size lv L os (.slice none 0 0) [] (.slice none 0 0) [] [] (wr.heap.size :: mb) ∧ Mx mb (wr.heap.size :: mb) wr (wr.alloc (.cells #[.int .i64 b, .slice none 0 0, .slice none 0 0] 56)) := by
  have hx : Ex wr (wr.alloc (.cells #[.int .i64 b, .slice none 0 0, .slice none 0 0] 56)) := (Ex.refl _).alloc _
  have hsz : (wr.alloc (.cells #[.int .i64 b, .slice none 0 0, .slice none 0 0] 56)).heap.size = wr.heap.size + 1 := by simp
  have hmx : Mx mb (wr.heap.size :: mb) wr (wr.alloc (.cells #[.int .i64 b, .slice none 0 0, .slice none 0 0] 56)) := by
    refine ⟨hx.os, hx.tape, hx.output, hx.size, fun i hi _ => hx.block i hi, fun B hB => ?_⟩
    rcases List.mem_cons.1 hB with e | e
    · exact .inr (by omega)
    · exact .inl e
  have hob := (h.lo ob h.om).2
  refine ⟨⟨hx.cell h.oc0, hx.cell h.oc1, hx.frz h.oc1 h.of1, by simp, by simp, by simp, by simp, by simp, by omega, h.ch.mx hmx (ownsRow_ex h.ch.own hx) (fun B e => List.mem_cons_of_mem _ (h.ch.blk B e)), World.ownsRow_nil _ _ _ _, World.ownsRow_nil _ _ _ _, fun i r u a => by simp at a, Aprt.nil _, Aprt.nil _, Aprt.nil _, fun B e => (by cases e), fun B e => (by cases e), fun B e => ⟨h.nlv B e, by have := (h.lo B (h.ch.blk B e)).2; omega, List.mem_cons_of_mem _ (h.ch.blk B e)⟩, List.mem_cons_of_mem _ h.om, h.ql, List.mem_cons_self .., fun B hB => ?_, h.ex.trans hx⟩, hmx⟩
  rw [hsz]
  rcases List.mem_cons.1 hB with e | e
  · subst e; have := h.ex.size; omega
  · have := h.lo B e; omega
/-- A level of one point is dropped. -/
theorem LvS.drop {w0 wr : World} {q n b ob lb : Nat} {lv : Value} {L : List Lv} {os : List (Value × Value)} {ov : Value} {orb : List Int} {rv : Value} {reps : List (List Int)} {vals : List Value} {mb : List Nat} (h : LvS w0 wr q n b ob lb lv L os ov orb rv reps vals mb) : ChS w0 wr q n ob lv L os mb :=
  ⟨h.oc0, h.oc1, h.of1, h.ch, fun B e => (h.nlv B e).1, h.om, h.ql, h.lo, h.ex⟩
/-- A level is kept: w1 the world behind the append, before the store. -/
theorem LvS.keep {w0 wr : World} {q n b ob lb : Nat} {lv : Value} {L : List Lv} {os : List (Value × Value)} {ov : Value} {orb : List Int} {rv : Value} {reps : List (List Int)} {vals : List Value} {mb : List Nat} (h : LvS w0 wr q n b ob lb lv L os ov orb rv reps vals mb) {w1 : World} {lv' : Value}
    (ha : Appd wr w1 w0.heap.size 56 3 lv lv' L.length (lvC L os) [.int .i64 b, ov, rv]) :
    ∃ mb', ChS w0 (w1.setCell ⟨ob, 1, none⟩ lv') q n ob lv' (L ++ [⟨b, orb, reps⟩]) (os ++ [(ov, rv)]) mb' := by
  have hsub : Mx mb (ob :: lv.ownBlock.toList) wr wr := ⟨rfl, rfl, rfl, Nat.le_refl _, fun _ _ _ => rfl, fun B hB => by
    rcases List.mem_cons.1 hB with e | e
    · subst e; exact .inl h.om
    · exact .inl (h.nlv B (by simpa using e)).2.2⟩
  have hmx := mx_app (mb := ob :: lv.ownBlock.toList) (j := 1) (u := lv') (cb := ob) ha (fun B e => List.mem_cons_of_mem _ (by rw [e]; simp)) (List.mem_cons_self ..)
  have hsz : (w1.setCell ⟨ob, 1, none⟩ lv').heap.size = w1.heap.size := by simp [World.setCell]
  have hgs := ha.grow
  have hnob : some ob ≠ lv.ownBlock := fun e => (h.nlv ob e.symm).1 rfl
  have obl := (h.lo ob h.om).2
  have hbk : ∀ B, lv'.ownBlock = some B → B ≠ ob := fun B e => by
    rcases ha.at_ with h1 | h1
    · rw [h1] at e; exact (h.nlv B e).1
    · rw [h1] at e; injection e with e; omega
  have offov : ∀ B, ov.ownBlock = some B → B ∉ ob :: lv.ownBlock.toList := fun B e hm => by
    rcases List.mem_cons.1 hm with e2 | e2
    · exact (h.nov B e).1 e2
    · have e2 : lv.ownBlock = some B := by simpa using e2
      rcases h.a1 with k | k
      · rw [k] at e; cases e
      · exact k (by rw [e, e2])
  have offrv : ∀ B, rv.ownBlock = some B → B ∉ ob :: lv.ownBlock.toList := fun B e hm => by
    rcases List.mem_cons.1 hm with e2 | e2
    · exact (h.nrv B e).1 e2
    · have e2 : lv.ownBlock = some B := by simpa using e2
      rcases h.a2 with k | k
      · rw [k] at e; cases e
      · exact k (by rw [e, e2])
  have hSI : SI wr (q :: ob :: lv.ownBlock.toList) ov orb := ⟨Sl.own h.ovo, fun _ B e => ⟨fun hm => by
    rcases List.mem_cons.1 hm with e2 | e2
    · have := (h.ovo.lt B e).1; have := h.ql; omega
    · exact offov B e e2, (h.ovo.lt B e).2⟩⟩
  have hSM : SM wr (q :: ob :: lv.ownBlock.toList) rv reps vals := ⟨Sl.own h.rvo, fun _ B e => ⟨fun hm => by
    rcases List.mem_cons.1 hm with e2 | e2
    · have := (h.rvo.lt B e).1; have := h.ql; omega
    · exact offrv B e e2, (h.rvo.lt B e).2⟩, fun i r u a c => (h.rows i r u a c).mx (hsub.cons q)⟩
  refine ⟨lv'.ownBlock.toList ++ (ob :: lv.ownBlock.toList), ?_, ?_, by rw [frz_set]; exact ha.frz h.oc1 h.of1 hnob, ⟨?_, by simp [h.ch.len], fun i l o a c => ?_, fun B e => List.mem_append_left _ (by rw [e]; simp)⟩, hbk, List.mem_append_right _ (List.mem_cons_self ..), h.ql, fun B hB => ?_, hmx.ex h.ex (fun B hB => ?_)⟩
  · rw [cell_set_off (by decide)]; exact ha.cell h.oc0 hnob
  · exact World.cell?_setCell_same _ _ _ (ha.cell h.oc1 hnob)
  · rw [lvC_app L os ⟨b, orb, reps⟩ (ov, rv) h.ch.len, List.length_append]
    exact ownsRow_setCell_ne ha.own (fun e => hbk _ e rfl) _
  · by_cases hi : i < L.length
    · rw [List.getElem?_append_left hi] at a
      rw [List.getElem?_append_left (by have := h.ch.len; omega)] at c
      obtain ⟨k1, v2, k2⟩ := h.ch.lev i l o a c
      exact ⟨(k1.mx (hsub.cons q)).mx (hmx.cons q), v2, (k2.mx (hsub.cons q)).mx (hmx.cons q)⟩
    · rw [List.getElem?_append_right (by omega)] at a
      rw [List.getElem?_append_right (by have := h.ch.len; omega)] at c
      have hi2 : i - L.length = 0 := by
        have := (List.getElem?_eq_some_iff.1 a).1
        simp at this; omega
      rw [hi2] at a
      rw [h.ch.len, hi2] at c
      simp at a c
      subst a c
      exact ⟨hSI.mx (hmx.cons q), vals, hSM.mx (hmx.cons q)⟩
  · rw [hsz]
    rcases List.mem_append.1 hB with h1 | h1
    · exact ha.own.lt B (by simpa using h1)
    · rcases List.mem_cons.1 h1 with e | e
      · subst e; exact ⟨(h.lo B h.om).1, by omega⟩
      · have := h.lo B (h.nlv B (by simpa using e)).2.2; exact ⟨this.1, by omega⟩
  · rcases List.mem_cons.1 hB with e | e
    · subst e; exact (h.lo B h.om).1
    · exact (h.lo B (h.nlv B (by simpa using e)).2.2).1
/-- The levels behind the stores into the result's box. -/
theorem ChS.out {w0 wr : World} {q n ob : Nat} {lv : Value} {L : List Lv} {os : List (Value × Value)} {mb : List Nat} (h : ChS w0 wr q n ob lv L os mb) (u v : Value) : LSl ((wr.setCell ⟨q, 0, none⟩ u).setCell ⟨q, 1, none⟩ v) lv L := by
  have hne : lv.ownBlock ≠ some q := fun e => by
    have := (h.lo q (h.ch.blk q e)).1
    have := h.ql
    omega
  have hM : Mx (q :: mb) (q :: mb) wr ((wr.setCell ⟨q, 0, none⟩ u).setCell ⟨q, 1, none⟩ v) := by
    refine ⟨rfl, rfl, rfl, by simp [World.setCell], fun i hi hn => ?_, fun B hB => .inl hB⟩
    have hiq : i ≠ q := fun e => hn (by rw [e]; exact List.mem_cons_self ..)
    rw [Below.heap_setCell _ _ _ _ hiq, Below.heap_setCell _ _ _ _ hiq]
  refine ⟨os, h.ch.len, Sl.own (ownsRow_setCell_ne (ownsRow_setCell_ne h.ch.own hne u) hne v), fun i l o a c => ?_⟩
  obtain ⟨k1, vals, k2⟩ := h.ch.lev i l o a c
  exact ⟨(k1.mx hM).sl, (k2.mx hM).msl⟩
end Go.Proofs.YtgfdhclpffakfaaGreat
