/- A range over a function: the rounds read what the iterator has laid; what the iterator keeps between two rounds is all that was there. -/
import Derived.RangeFuncNested
import Derived.RangeFuncBound
import Derived.RangeFuncLeaves
import Derived.Test.YtgfdhclpffakfaaGreatZa02
import Derived.Test.YtgfdhclpffakfaaGreatZa03
namespace Go.Proofs.YtgfdhclpffakfaaGreat
set_option linter.unusedVariables false
set_option linter.unusedSimpArgs false
open Go.RowKit

theorem roomN {F : Fence} (hd : F.depth = none) (k : Nat) : F.room k := fun d h => by rw [hd] at h; cases h
theorem yieldM {F : Fence} (hd : F.depth = none) {m : Nat} (m' : Nat) {P : Program} {l : Nat} {args : Array Value} {W : World} {R : Ending → World → Prop} (h : YieldAt F m P l args W R) : YieldAt F m' P l args W R := by
  obtain ⟨fn, tmps, assign, body, hy, h1, h2⟩ := h
  exact ⟨fn, tmps, assign, body, hy, h1, fun c cs _ => h2 c cs (roomN hd _)⟩
/-- What a round keeps: all but the blocks of M. -/
structure Kps (M : Nat → Prop) (a b : World) : Prop where
  os : b.os = a.os
  tape : b.tape = a.tape
  output : b.output = a.output
  size : a.heap.size ≤ b.heap.size
  block : ∀ k, k < a.heap.size → ¬ M k → b.heap[k]? = a.heap[k]?
theorem Kps.trans {M : Nat → Prop} {a b c : World} (h : Kps M a b) (k : Kps M b c) : Kps M a c :=
  ⟨k.os.trans h.os, k.tape.trans h.tape, k.output.trans h.output, Nat.le_trans h.size k.size, fun i h1 h2 => (k.block i (Nat.lt_of_lt_of_le h1 h.size) h2).trans (h.block i h1 h2)⟩
theorem Kps.ofEx {M : Nat → Prop} {a b : World} (h : Ex a b) : Kps M a b := ⟨h.os, h.tape, h.output, h.size, fun k hk _ => h.block k hk⟩
/-- A turn of one block. -/
theorem Kps.grown {M : Nat → Prop} {a b : World} {row : Option Nat} (hg : a.grownBy b row) (hr : ∀ k, row = some k → M k) : Kps M a b :=
  ⟨hg.os, hg.tape, hg.output, hg.size, fun k h1 h2 => hg.block k h1 (fun e => h2 (hr k e.symm))⟩
theorem Kps.cell {M : Nat → Prop} {a b : World} (h : Kps M a b) {p : Addr} {u : Value} (hc : a.cell? p = some u) (hm : ¬ M p.block) : b.cell? p = some u := by
  rw [World.cell?_of_block (w := a) (w' := b) (h.block _ (World.block_lt_of_cell? _ _ hc) hm)]; exact hc
theorem Kps.ex {M : Nat → Prop} {w a b : World} (hx : Ex w a) (h : Kps M a b) (hm : ∀ k, M k → w.heap.size ≤ k) : Ex w b :=
  ⟨h.os.trans hx.os, h.tape.trans hx.tape, h.output.trans hx.output, Nat.le_trans hx.size h.size, fun k hk => (h.block k (Nat.lt_of_lt_of_le hk hx.size) (fun e => by have := hm k e; omega)).trans (hx.block k hk)⟩
theorem Sl.kps {M : Nat → Prop} {a b : World} (hx : Kps M a b) {v : Value} {n size : Nat} {xs : List Value} (h : Sl a v n size xs) (ho : 0 < n → ∀ B, v.ownBlock = some B → ¬ M B) : Sl b v n size xs := by
  obtain ⟨h1, c, cap, rfl, h3, h4, h5⟩ := h
  refine ⟨h1, c, cap, rfl, h3, h4, fun hn => ?_⟩
  obtain ⟨X, o, rfl, h6⟩ := h5 hn
  exact ⟨X, o, rfl, fun j u hu => hx.cell (h6 j u hu) (ho hn X rfl)⟩
/-- What the iterator promises, round by round: Pr says what is told of the value at the round's begin. -/
def SeqR {α : Type} (F : Fence) (n : Nat) (P : Program) (g : Nat) (lb : Array Value) (encs : α → Array Value) (Pr : List α → α → World → Prop) (Mc : Nat → Prop) (S Sp : List α → Prop) (w : World) : Prop :=
  ∀ (l : Nat) (J Jx : List α → World → Prop) (W : World), Ex w W → w.heap.size ≤ l → l < W.heap.size → (∀ s A B, J s A → Ex A B → J s B) → (∀ s A B, Jx s A → Ex A B → Jx s B) →
    (∀ m pre x A, J pre A → Pr pre x A → YieldAt F m P l (encs x) A fun e B =>
      (e = .returned (.bool true) ∧ J (pre ++ [x]) B ∧ Kps (fun k => Mc k ∨ k = l) A B) ∨ (e = .returned (.bool false) ∧ Jx (pre ++ [x]) B ∧ Kps (fun k => Mc k ∨ k = l) A B)) →
    J [] W →
    CallsIn F n P g (#[.func (.yield l) #[] #[]] ++ lb) W fun e B => (∃ v, e = .returned v) ∧ ((∃ xs, S xs ∧ J xs B) ∨ (∃ pre, Sp pre ∧ Jx pre B))
/-- How a round may be left. -/
def ownPostR {α : Type} (B : Nat) (M : Nat → Prop) (I : List α → World → Prop) (Ix : Code → List α → World → Prop) (xs : List α) (W : World) : Exit → Act → World → Prop
  | .normal, _, W' => KeepsFrom B W W' ∧ Kps M W W' ∧ I xs W'
  | .ret, _, W' => KeepsFrom B W W' ∧ Kps M W W' ∧ Ix .ret xs W'
  | .exit id, _, W' => KeepsFrom B W W' ∧ Kps M W W' ∧ Ix (.exit id) xs W'
  | .goto t, _, W' => KeepsFrom B W W' ∧ Kps M W W' ∧ Ix (.goto t) xs W'
  | .panic _, _, _ => False
  | .outgrown, _, _ => False
variable {F : Fence} {n : Nat} {P : Program}
theorem rf_own {α : Type} {g : Operand} {ps : Array Tmp} {assign body : Code} {Q : Exit → Act → World → Prop} {a : Act} {w : World}
    (hd : F.depth = none) (hro : F.round = none) {gf : Nat} {lb : Array Value} (hg : a.eval g = .func (.func gf) #[] lb) (hFg : F.fn gf) (eg : ∀ args w, (callFunc gf args).run P w = .ok (.enter gf args) w)
    {encs : α → Array Value} {Pr : List α → α → World → Prop} {Mc : Nat → Prop} {S Sp : List α → Prop} (hseq : SeqR F (n - 1) P gf lb encs Pr Mc S Sp w) (hps : ∀ x, (encs x).size = ps.size)
    (I : List α → World → Prop) (Ix : Code → List α → World → Prop) (hI : OwnFrom w.heap.size I) (hIx : ∀ c, OwnFrom w.heap.size (Ix c)) (hPr : ∀ pre x, OwnFrom w.heap.size (fun (_ : Unit) W => Pr pre x W))
    (hIe : ∀ s A B, I s A → Ex A B → I s B) (hIxe : ∀ c s A B, Ix c s A → Ex A B → Ix c s B) (h0 : I [] w) (a₁ : α → Act)
    (hassign : ∀ (l : Nat) (x : α) (W : World) (K : Act → World → Prop), K (a₁ x) W →
      assign.wpIn (F.inRound l) (n - 1 - 1) P (Exit.then K (fun _ _ _ => False)) { tmps := (ps.zip (encs x)).foldl (fun t (p, v) => t.setIfInBounds p v) a.tmps, defers := [] } W)
    (hbody : ∀ (l : Nat) (pre : List α) (x : α) (W : World), l = w.heap.size + 1 → I pre W → Pr pre x W → body.wpIn (F.inRound l) (n - 1 - 1) P (ownPostR w.heap.size (fun k => Mc k ∨ k = w.heap.size + 1) I Ix (pre ++ [x]) W) (a₁ x) W)
    (hdone : ∀ (D : Nat) (xs : List α) (W : World), w.heap.size ≤ D → S xs → I xs W → W.heap[D]? = some (.deferred (some [])) → Q .normal { a with defers := { target := .collected D, args := #[] } :: a.defers } W)
    (hstop : ∀ (D : Nat) (c : Code) (pre : List α) (W : World), w.heap.size ≤ D → Sp pre → Ix c pre W → W.heap[D]? = some (.deferred (some [])) → c.wpIn F n P Q { a with defers := { target := .collected D, args := #[] } :: a.defers } W) :
    (Code.rangeFunc g ps assign body).wpIn F n P Q a w := by
  refine wpIn_rangeFunc ?_
  intro fn hfn
  rw [hro]
  obtain ⟨rec, hrec⟩ : ∃ rec : LoopState → Option Code → Loop, rec = fun st pe => { state := st, pending := pe, fn, tmps := a.tmps, params := ps, assign, body, defers := w.heap.size } := ⟨_, rfl⟩
  obtain ⟨W1, hW1⟩ : ∃ W1, (w.alloc (.deferred (some []))).alloc (.loop (rec .ready none)) = W1 := ⟨_, rfl⟩
  have hsz : W1.heap.size = w.heap.size + 2 := by rw [← hW1]; simp
  have hL1 : W1.heap[w.heap.size + 1]? = some (.loop (rec .ready none)) := by
    rw [← hW1]; have := World.alloc_heap_new (w.alloc (.deferred (some []))) (.loop (rec .ready none)); rwa [World.size_alloc] at this
  have hK1 : W1.heap[w.heap.size]? = some (.deferred (some [])) := by
    rw [← hW1]; exact (Below.heap_alloc _ _ _ (by simp)).trans (World.alloc_heap_new w _)
  have hI1 : I [] W1 := by rw [← hW1]; exact hI.alloc _ (hI.alloc _ h0)
  have hE1 : Ex w W1 := by rw [← hW1]; exact ((Ex.refl w).alloc _).alloc _
  have hxx : ∀ {A B : World} {k : Nat} {o : Obj}, Ex A B → A.heap[k]? = some o → B.heap[k]? = some o := fun hx hk => (hx.block _ (Array.getElem?_eq_some_iff.1 hk).1).trans hk
  refine ⟨w.heap.size + 1, [{ target := .collected w.heap.size, args := #[] }], W1, { target := .fn (.func gf) lb, args := #[.func (.yield (w.heap.size + 1)) #[] #[]] }, W1, gf,
    #[.func (.yield (w.heap.size + 1)) #[] #[]] ++ lb, W1, ?_, ?_, ?_, ?_, (fun h => by rw [hd] at h; cases h), ?_⟩
  · rw [← hW1, hrec]; exact run_enterLoop_outer _ _ _ _ _
  · simp only [resolve, hg]
    simp [go_sem]
  · intro f' hf'; simp [Target.leads] at hf'; subst hf'; exact hFg
  · simp [invoke, go_sem, eg]
  · refine (hseq (w.heap.size + 1)
      (fun pre W => I pre W ∧ W.heap[w.heap.size + 1]? = some (.loop (rec .ready none)) ∧ W.heap[w.heap.size]? = some (.deferred (some [])))
      (fun pre W => ∃ c, Ix c pre W ∧ W.heap[w.heap.size + 1]? = some (.loop (rec .done (some c))) ∧ W.heap[w.heap.size]? = some (.deferred (some [])))
      W1 hE1 (by omega) (by omega) (fun s A B hs hx => ⟨hIe s A B hs.1 hx, hxx hx hs.2.1, hxx hx hs.2.2⟩)
      (fun s A B hs hx => by obtain ⟨c, h1, h2, h3⟩ := hs; exact ⟨c, hIxe c s A B h1 hx, hxx hx h2, hxx hx h3⟩) ?_ ⟨hI1, hL1, hK1⟩).mono ?_
    · rintro m pre x W ⟨hi, hl, hk⟩ hpr
      have hlt : w.heap.size + 1 < W.heap.size := (Array.getElem?_eq_some_iff.1 hl).1
      have hy := run_yield (P := P) (args := encs x) hl (by rw [hrec]; exact hps x)
      rw [hrec] at hy
      refine yieldM hd m (m := n - 1 - 1) ⟨fn, _, assign, body, hy, roundIn_of_wpIn hfn (hassign _ x W _ ?_)⟩
      clear hy
      refine ⟨_, run_beginRound hl (by rw [hrec]), ?_⟩
      have hl2 : (W.putObj (w.heap.size + 1) (.loop { rec .ready none with state := .busy })).heap[w.heap.size + 1]? = some (.loop { rec .ready none with state := .busy }) := World.putObj_heap_same hlt
      have hk2 : (W.putObj (w.heap.size + 1) (.loop { rec .ready none with state := .busy })).heap[w.heap.size]? = some (.deferred (some [])) := (World.putObj_heap_other (by omega)).trans hk
      have hkp : ∀ (X : World) (o : Obj), w.heap.size + 1 < X.heap.size → Kps (fun k => Mc k ∨ k = w.heap.size + 1) X (X.putObj (w.heap.size + 1) o) := fun X o hX => Kps.grown (grownBy_putObj' X _ o) (fun k e => by cases e; exact .inr rfl)
      refine wpIn_mono (hbody _ pre x _ rfl (hI.putObj _ hi (by omega) hl rfl) ((hPr pre x).putObj (s := ()) _ hpr (by omega) hl rfl)) ?_
      have fin : ∀ (jump : Option Code) (W3 : World), KeepsFrom w.heap.size (W.putObj (w.heap.size + 1) (.loop { rec .ready none with state := .busy })) W3 →
          (Instr.endRound (w.heap.size + 1) jump).run P W3 = .ok (.bool jump.isNone) (W3.putObj (w.heap.size + 1) (.loop (rec (if jump.isNone then .ready else .done) jump))) ∧
          W3.heap[w.heap.size + 1]? = some (.loop { rec .ready none with state := .busy }) ∧
          (W3.putObj (w.heap.size + 1) (.loop (rec (if jump.isNone then .ready else .done) jump))).heap[w.heap.size + 1]? = some (.loop (rec (if jump.isNone then .ready else .done) jump)) ∧
          (W3.putObj (w.heap.size + 1) (.loop (rec (if jump.isNone then .ready else .done) jump))).heap[w.heap.size]? = some (.deferred (some [])) := fun jump W3 hk3 => by
        have hl3 := hk3.same _ _ (by omega) hl2 rfl
        have := run_endRound (P := P) jump hl3
        rw [hrec] at this ⊢
        exact ⟨this, by rw [hrec] at hl3; exact hl3, World.putObj_heap_same (Array.getElem?_eq_some_iff.1 hl3).1, (World.putObj_heap_other (by omega)).trans (hk3.same _ _ (Nat.le_refl _) hk2 rfl)⟩
      rintro e a3 W3 hp
      cases e with
      | normal =>
        obtain ⟨hk3, hkp3, hi3⟩ := hp
        obtain ⟨hr, hl3, hl4, hk4⟩ := fin none W3 hk3
        exact ⟨_, _, hr, .inl ⟨rfl, ⟨hI.putObj _ hi3 (by omega) hl3 rfl, hl4, hk4⟩, ((hkp W _ hlt).trans hkp3).trans (hkp W3 _ (Array.getElem?_eq_some_iff.1 hl3).1)⟩⟩
      | ret =>
        obtain ⟨hk3, hkp3, hi3⟩ := hp
        obtain ⟨hr, hl3, hl4, hk4⟩ := fin (some .ret) W3 hk3
        exact ⟨_, _, hr, .inr ⟨rfl, ⟨.ret, (hIx _).putObj _ hi3 (by omega) hl3 rfl, hl4, hk4⟩, ((hkp W _ hlt).trans hkp3).trans (hkp W3 _ (Array.getElem?_eq_some_iff.1 hl3).1)⟩⟩
      | exit id =>
        obtain ⟨hk3, hkp3, hi3⟩ := hp
        obtain ⟨hr, hl3, hl4, hk4⟩ := fin (some (.exit id)) W3 hk3
        exact ⟨_, _, hr, .inr ⟨rfl, ⟨.exit id, (hIx _).putObj _ hi3 (by omega) hl3 rfl, hl4, hk4⟩, ((hkp W _ hlt).trans hkp3).trans (hkp W3 _ (Array.getElem?_eq_some_iff.1 hl3).1)⟩⟩
      | goto t =>
        obtain ⟨hk3, hkp3, hi3⟩ := hp
        obtain ⟨hr, hl3, hl4, hk4⟩ := fin (some (.goto t)) W3 hk3
        exact ⟨_, _, hr, .inr ⟨rfl, ⟨.goto t, (hIx _).putObj _ hi3 (by omega) hl3 rfl, hl4, hk4⟩, ((hkp W _ hlt).trans hkp3).trans (hkp W3 _ (Array.getElem?_eq_some_iff.1 hl3).1)⟩⟩
      | panic ch => exact hp.elim
      | outgrown => exact hp.elim
    · rintro e W2 ⟨⟨v, rfl⟩, (⟨xs, hS, hi, hl, hk⟩ | ⟨pre, hSp, c, hi, hl, hk⟩)⟩
      · exact ⟨none, _, by have := run_endLoop (P := P) hl (by rw [hrec]; simp); rw [hrec] at this; exact this, hdone _ xs _ (Nat.le_refl _) hS (hI.putObj _ hi (by omega) hl rfl) ((World.putObj_heap_other (by omega)).trans hk)⟩
      · exact ⟨some c, _, by have := run_endLoop (P := P) hl (by rw [hrec]; simp); rw [hrec] at this; exact this, hstop _ c pre _ (Nat.le_refl _) hSp ((hIx c).putObj _ hi (by omega) hl rfl) ((World.putObj_heap_other (by omega)).trans hk)⟩
end Go.Proofs.YtgfdhclpffakfaaGreat
