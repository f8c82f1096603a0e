/- Walk of the inner function of peel.Smallest. -/
import Derived.Test.YtpphaicbdeeacaaPeelE
namespace Go.Proofs.Ytpphaicbdeeacaa
set_option linter.unusedVariables false
set_option linter.unusedSimpArgs false
open Go.RowKit

/-- The first of g i, g (i+1), .., k of them, that gives something. -/
def loopS {β : Type} (g : Nat → Option β) : Nat → Nat → Option β
  | _, 0 => none
  | i, k + 1 => match g i with | some y => some y | none => loopS g (i + 1) k
theorem loopS_some {β : Type} {g : Nat → Option β} {i k m : Nat} {y : β} (h : g i = some y) (hk : m = k + 1) : loopS g i m = some y := by
  subst hk; unfold loopS; rw [h]
theorem loopS_none {β : Type} {g : Nat → Option β} {i k m : Nat} (h : g i = none) (hk : m = k + 1) : loopS g i m = loopS g (i + 1) k := by
  subst hk
  show (match g i with | some y => some y | none => loopS g (i + 1) k) = _
  rw [h]
/-- The search for a stopping set of `size` more members from `first` on. -/
def srchS (rows : List (List Int)) (N : Nat) : Nat → Nat → (Nat → Bool) → Option (Nat → Bool)
  | 0, _, f => if aloneI f rows < 0 then some f else none
  | s + 1, first, f => loopS (fun i => srchS rows N s (i + 1) (upd f i true)) first (N - s - first)

structure SmSt (w0 w : World) (xb ib fb g N : Nat) (v : Value) (f : Nat → Bool) : Prop where
  own : Own w w0.heap.size 4 g N (bv f)
  x0 : w.cell? ⟨xb, 0, none⟩ = some (.int .i64 N)
  x1 : w.cell? ⟨xb, 1, none⟩ = some v
  i0 : w.cell? ⟨ib, 0, none⟩ = some (.slice (some ⟨g, 0, none⟩) N N)
  f0 : w.cell? ⟨fb, 0, none⟩ = some (.func (.func 57) #[] #[.pointer (some ⟨xb, 0, none⟩), .pointer (some ⟨ib, 0, none⟩), .pointer (some ⟨fb, 0, none⟩)])
  nx : xb ≠ g
  ni : ib ≠ g
  nf : fb ≠ g
  ex : Ex w0 w

theorem SmSt.later {w0 w w' : World} {xb ib fb g N : Nat} {v : Value} {f : Nat → Bool} (h : SmSt w0 w xb ib fb g N v f) (hx : Ex w w') : SmSt w0 w' xb ib fb g N v f :=
  ⟨h.own.ex hx, hx.cell h.x0, hx.cell h.x1, hx.cell h.i0, hx.cell h.f0, h.nx, h.ni, h.nf, h.ex.trans hx⟩
theorem SmSt.set {w0 w : World} {xb ib fb g N : Nat} {v : Value} {f : Nat → Bool} (h : SmSt w0 w xb ib fb g N v f) (j : Nat) (b : Bool) : SmSt w0 (w.setCell ⟨g, j, none⟩ (.bool b)) xb ib fb g N v (upd f j b) := by
  have key : ∀ (B o : Nat), B ≠ g → (w.setCell ⟨g, j, none⟩ (.bool b)).cell? ⟨B, o, none⟩ = w.cell? ⟨B, o, none⟩ := fun B o hB =>
    World.cell?_setCell_other _ _ _ _ (by intro e; injection e with e1; exact hB e1.symm)
  refine ⟨?_, ?_, ?_, ?_, ?_, h.nx, h.ni, h.nf, h.own.exSet (Nat.le_refl _) h.ex j _⟩
  · rw [← bv_upd]; exact h.own.set j (.bool b)
  · rw [key _ _ h.nx]; exact h.x0
  · rw [key _ _ h.nx]; exact h.x1
  · rw [key _ _ h.ni]; exact h.i0
  · rw [key _ _ h.nf]; exact h.f0
theorem SmSt.congr {w0 w : World} {xb ib fb g N : Nat} {v : Value} {f k : Nat → Bool} (h : SmSt w0 w xb ib fb g N v f) (e : f = k) : SmSt w0 w xb ib fb g N v k := e ▸ h

def SmPost (w0 : World) (xb ib fb g N : Nat) (v : Value) (f : Nat → Bool) (o : Option (Nat → Bool)) (r : Ending) (w' : World) : Prop :=
  match o with
  | some f' => r = .returned (.bool true) ∧ SmSt w0 w' xb ib fb g N v f'
  | none => r = .returned (.bool false) ∧ SmSt w0 w' xb ib fb g N v f

theorem upd_undo {f : Nat → Bool} {i : Nat} (h : f i = false) : upd (upd f i true) i false = f := by
  funext j
  unfold upd
  by_cases e : j = i
  · subst e; simp [h]
  · simp [e]

set_option maxRecDepth 100000 in
set_option maxHeartbeats 4000000 in
theorem Smallest1_any (w0 : World) (xb ib fb g N : Nat) (rows : List (List Int)) (v : Value) (hN : N ≤ 64) (hv : MSl w0 v rows) (hri : RowsIn N rows) :
    ∀ (s first : Nat) (f : Nat → Bool) (w : World), s ≤ 64 → first ≤ N → (∀ j, first ≤ j → f j = false) → SmSt w0 w xb ib fb g N v f →
    Calls Try.prog 57 #[.int .i64 first, .int .i64 s, .pointer (some ⟨xb, 0, none⟩), .pointer (some ⟨ib, 0, none⟩), .pointer (some ⟨fb, 0, none⟩)] w (SmPost w0 xb ib fb g N v f (srchS rows N s first f)) := by
  have HV := hid_ hv
  have HRI := hid_ hri
  obtain ⟨za, zc, rfl, z1, z2, z3⟩ := hv.open
  clear hv hri z1 z2 z3
  intro s
  induction s with
  | zero =>
    intro first f w _ _ _ hst
    have HS := hid_ hst
    have r0 := hst.x0
    have r1 := hst.x1
    have r2 := hst.i0
    have HA := hid_ (alone_any w N N f rows (.slice za rows.length zc) _ (HV.out.ex hst.ex) hst.own.sl HRI.out)
    have hb : ((0 : Int) == 0) = true := rfl
    by_cases h : aloneI f rows < 0
    · have HP := hid_ (show ∀ w', SmSt w0 w' xb ib fb g N (.slice za rows.length zc) f → SmPost w0 xb ib fb g N (.slice za rows.length zc) f (srchS rows N 0 first f) (.returned (.bool true)) w' from fun w' h' => by
        unfold srchS; rw [if_pos h]; exact ⟨rfl, h'⟩)
      clear hst
      generalize aloneI f rows = y at *
      go_enter Try.func57, Try.ntmps57
      go_wp2_with (go_at_call 49; refine HA.out.mono ?_; rintro e w5 ⟨rfl, hxa⟩)
      go_ret
      exact HP.out _ (HS.out.later hxa)
    · have HP := hid_ (show ∀ w', SmSt w0 w' xb ib fb g N (.slice za rows.length zc) f → SmPost w0 xb ib fb g N (.slice za rows.length zc) f (srchS rows N 0 first f) (.returned (.bool false)) w' from fun w' h' => by
        unfold srchS; rw [if_neg h]; exact ⟨rfl, h'⟩)
      have h2 : 0 ≤ aloneI f rows := by omega
      clear hst h
      generalize aloneI f rows = y at *
      have h3 : decide (y < 0) = false := by simpa using h2
      go_enter Try.func57, Try.ntmps57
      go_wp2_with (go_at_call 49; refine HA.out.mono ?_; rintro e w5 ⟨rfl, hxa⟩)
      go_ret
      exact HP.out _ (HS.out.later hxa)
  | succ s ih =>
    intro first f w hs hfN hff hst
    have IH := hid_ ih
    have HS := hid_ hst
    have HFF := hid_ hff
    have hb : (((s : Int) + 1) == 0) = false := by simp; omega
    rw [show (((s + 1 : Nat)) : Int) = (s : Int) + 1 from rfl]
    have HG := hid_ (show srchS rows N (s + 1) first f = loopS (fun i => srchS rows N s (i + 1) (upd f i true)) first (N - s - first) from rfl)
    obtain ⟨R, hR⟩ : ∃ R, srchS rows N (s + 1) first f = R := ⟨_, rfl⟩
    rw [hR] at HG ⊢
    clear hst ih hff hR
    go_enter Try.func57, Try.ntmps57
    go_wp2_with fail
    go_loopw [8] (fun i' wr => ∃ i : Nat, i ≤ N ∧ first ≤ i ∧ i' = .int .i64 i ∧ Hid (SmSt w0 wr xb ib fb g N (.slice za rows.length zc) f) ∧ Hid (R = loopS (fun i => srchS rows N s (i + 1) (upd f i true)) i (N - s - i))) (fun i' _ => N - (intOf i').toNat)
    case atStart => exact ⟨first, hfN, by omega, rfl, HS, HG⟩
    case round =>
      clear HS HG
      obtain ⟨i, hi, hfi, rfl, hst, hg⟩ := hrel
      have r0 := hst.out.x0
      by_cases hlt : i + (s + 1) ≤ N
      · have hiN : i < N := by omega
        have hlt' : (i : Int) + ((s : Int) + 1) ≤ (N : Int) := by omega
        have r1 := hst.out.i0
        have hf := hst.out.own.frz i
        have hcc := hst.out.own.cell hiN
        have HS1 := hid_ (hst.out.set i true)
        have HUN := hid_ (upd_undo (HFF.out i hfi))
        have HIH := hid_ (IH.out (i + 1) (upd f i true) _ (by omega) (by omega) (fun j hj => by rw [upd_ne _ _ (by omega)]; exact HFF.out j (by omega)) HS1.out)
        have q2 := HS1.out.f0
        clear hst
        cases hG : srchS rows N s (i + 1) (upd f i true) with
        | some f' =>
          rw [hG] at HIH
          have HR := hid_ (show R = some f' by rw [hg.out]; exact loopS_some (k := N - s - (i + 1)) hG (by omega))
          clear hG hg
          go_wp2_with fail
          refine HIH.out.mono ?_
          rintro e w2 ⟨rfl, hs2⟩
          have HS2 := hid_ hs2
          clear hs2 r0 r1 q2 hf hcc
          go_wp2_with fail
          go_ret
          rw [HR.out]
          exact ⟨rfl, HS2.out⟩
        | none =>
          rw [hG] at HIH
          have HR := hid_ (show R = loopS (fun i => srchS rows N s (i + 1) (upd f i true)) (i + 1) (N - s - (i + 1)) by rw [hg.out]; exact loopS_none (k := N - s - (i + 1)) hG (by omega))
          clear hG hg
          go_wp2_with fail
          refine HIH.out.mono ?_
          rintro e w2 ⟨rfl, hs2⟩
          have HS2 := hid_ hs2
          have HS3 := hid_ ((hs2.set i false).congr HUN.out)
          have p1 := hs2.i0
          have p2 := hs2.own.frz i
          have p3 := hs2.own.cell hiN
          clear hs2 r0 r1 q2 hf hcc
          go_wp2_with fail
          go_roundw
          case rel => exact ⟨i + 1, by omega, by omega, by go_num, HS3, HR⟩
          case measure => simp [intOf]; omega
      · have HR := hid_ (show R = none by rw [hg.out, show N - s - i = 0 by omega]; rfl)
        have hlt' : (N : Int) < (i : Int) + ((s : Int) + 1) := by omega
        go_wp2_with fail
        go_ret
        rw [HR.out]
        exact ⟨rfl, hst.out⟩
end Go.Proofs.Ytpphaicbdeeacaa
