/- Slices of the call's own with spare room, read as functions. -/
/- A region that draws its order, by one invariant: each operation is shown once, whatever has come up before it. -/
import Derived.Test.YtgfdhclpffakfaaGreatZa04
namespace Go.Proofs.YtgfdhclpffakfaaGreat
set_option linter.unusedVariables false
set_option linter.unusedSimpArgs false
open Go.RowKit

/-- A slice of the call's own of n elements in the block g, with room for cap. -/
def OwnC (w : World) (base : Nat) (e : TypeId) (g n cap : Nat) (c : Nat → Value) : Prop := w.ownsRow base e 1 (.slice (some ⟨g, 0, none⟩) n cap) n (vs n c)
section
variable {w : World} {base : Nat} {e : TypeId} {g n cap : Nat} {c : Nat → Value}
theorem OwnC.cell (h : OwnC w base e g n cap c) {j : Nat} (hj : j < n) : w.cell? ⟨g, j, none⟩ = some (c j) := by
  rw [World.ownsRow.cellAt h j (by omega), vs_get hj]
theorem OwnC.frz (h : OwnC w base e g n cap c) (j : Nat) : w.frozen? ⟨g, j, none⟩ = false := World.ownsRow.frozenAt h j
theorem OwnC.set (h : OwnC w base e g n cap c) (j : Nat) (u : Value) : OwnC (w.setCell ⟨g, j, none⟩ u) base e g n cap (upd c j u) := by
  have := (World.ownsRow.stored h j u).1
  rwa [vs_set] at this
theorem OwnC.ex {w' : World} (h : OwnC w base e g n cap c) (hx : Ex w w') : OwnC w' base e g n cap c := ownsRow_ex h hx
theorem OwnC.lt (h : OwnC w base e g n cap c) : base ≤ g ∧ g < w.heap.size := World.ownsRow.lt h g rfl
theorem OwnC.exSet {a : World} (h : OwnC w base e g n cap c) (hb : a.heap.size ≤ base) (hx : Ex a w) (j : Nat) (u : Value) : Ex a (w.setCell ⟨g, j, none⟩ u) :=
  hx.setCell (p := ⟨g, j, none⟩) (Nat.le_trans hb h.lt.1) u
theorem OwnC.sl (h : OwnC w base e g n cap c) : Sl w (.slice (some ⟨g, 0, none⟩) n cap) n 1 (vs n c) := Sl.own h
theorem OwnC.isl {f : Nat → Int} (h : OwnC w base e g n cap (iv f)) : ISl w (.slice (some ⟨g, 0, none⟩) n cap) (il n f) := by
  unfold ISl
  rw [il_length, ints_il]
  exact h.sl
/-- What an own slice of at least one element is. -/
theorem ownC_of {v : Value} (h : w.ownsRow base e 1 v n (vs n c)) (hn : 1 ≤ n) : ∃ g cap, v = .slice (some ⟨g, 0, none⟩) n cap ∧ OwnC w base e g n cap c := by
  rcases h.2 with ⟨_, h0⟩ | ⟨g, cap, cur, rfl, _⟩
  · omega
  · exact ⟨g, cap, rfl, h⟩
end
end Go.Proofs.YtgfdhclpffakfaaGreat
namespace Go.Proofs.YtgfdhclpffakfaaGreat
set_option linter.unusedVariables false
set_option linter.unusedSimpArgs false
open Go.RowKit

/-- The frame behind the operations of L. -/
structure RFr (ops : Array Oper) (a0 : Act) (L : Nat → Bool) (vals : Nat → Value) (a : Act) : Prop where
  sz : a.tmps.size = a0.tmps.size
  df : a.defers = a0.defers
  got : ∀ (i : Nat) (o : Oper) (d : Nat), L i = true → ops[i]? = some o → o.dst = some d → a.tmps[d]? = some (vals i)
  old : ∀ (s : Nat), (∀ (i : Nat) (o : Oper), L i = true → ops[i]? = some o → o.dst ≠ some s) → a.tmps[s]? = a0.tmps[s]?
section
variable {ops : Array Oper} {a0 a a' : Act} {L L' : Nat → Bool} {vals : Nat → Value}
theorem RFr.congr (h : RFr ops a0 L vals a) (hL : ∀ i, i < ops.size → L i = L' i) : RFr ops a0 L' vals a := by
  have hs : ∀ i o, ops[i]? = some o → i < ops.size := fun i o h => (Array.getElem?_eq_some_iff.1 h).1
  exact ⟨h.sz, h.df, fun i o d hi ho hd => h.got i o d (by rw [hL i (hs i o ho)]; exact hi) ho hd, fun s hn => h.old s fun i o hi ho => hn i o (by rw [← hL i (hs i o ho)]; exact hi) ho⟩
theorem RFr.uniq (h : RFr ops a0 L vals a) (k : RFr ops a0 L vals a') : a = a' := by
  have h1 : a.tmps = a'.tmps := by
    apply Array.ext_getElem?
    intro s
    by_cases hs : ∃ i o, L i = true ∧ ops[i]? = some o ∧ o.dst = some s
    · obtain ⟨i, o, h1, h2, h3⟩ := hs
      rw [h.got i o s h1 h2 h3, k.got i o s h1 h2 h3]
    · rw [h.old s fun i o h1 h2 h3 => hs ⟨i, o, h1, h2, h3⟩, k.old s fun i o h1 h2 h3 => hs ⟨i, o, h1, h2, h3⟩]
  have h2 : a.defers = a'.defers := h.df.trans k.df.symm
  cases a; cases a'
  simp only at h1 h2
  subst h1 h2
  rfl
/-- The values laid in the text's order. -/
def putK (ops : List Oper) (vals : Nat → Value) : Nat → Act → Act := match ops with
  | [] => fun _ a => a
  | o :: l => fun k a => putK l vals (k + 1) (a.put o.dst (vals k))
end
theorem RFr.init (ops : Array Oper) (a0 : Act) (vals : Nat → Value) : RFr ops a0 (fun _ => false) vals a0 := ⟨rfl, rfl, fun i o d h => (by cases h), fun s _ => rfl⟩
theorem cnt_one (p : Nat → Bool) (m : Nat) : [m].countP p = if p m = true then 1 else 0 := by
  rw [List.countP_cons, List.countP_nil, Nat.zero_add]
theorem cnt_upd (L : Nat → Bool) (i : Nat) (hi : L i = false) : ∀ m, (List.range m).countP (fun j => !(upd L i true) j) + (if i < m then 1 else 0) = (List.range m).countP (fun j => !L j)
  | 0 => by simp
  | m + 1 => by
    have ih := cnt_upd L i hi m
    rw [List.range_succ, List.countP_append, List.countP_append, cnt_one, cnt_one]
    by_cases e : m = i
    · subst e
      rw [if_neg (by omega)] at ih
      rw [upd_same, hi, if_neg (by decide), if_pos (by omega), if_pos (by decide)]
      omega
    · rw [upd_ne _ _ e]
      by_cases e2 : i < m
      · rw [if_pos e2] at ih
        rw [if_pos (show i < m + 1 by omega)]
        omega
      · rw [if_neg e2] at ih
        rw [if_neg (show ¬ i < m + 1 by omega)]
        omega
/-- Each operation of the list, with its number. -/
def StepAll (F : Nat → Oper → Prop) : List Oper → Nat → Prop
  | [], _ => True
  | o :: l, k => F k o ∧ StepAll F l (k + 1)
theorem StepAll.get {F : Nat → Oper → Prop} : ∀ {l : List Oper} {k i : Nat} {o : Oper}, StepAll F l k → l[i]? = some o → F (k + i) o
  | [], _, _, _, _, hi => by cases hi
  | o :: l, k, 0, o', h, hi => by
    have : o = o' := Option.some.inj hi
    subst this
    exact h.1
  | o :: l, k, i + 1, o', h, hi => by
    have h1 : F (k + 1 + i) o' := StepAll.get (l := l) h.2 hi
    rw [show k + (i + 1) = k + 1 + i from by omega]; exact h1
section
variable {P : Program} {Q : Exit → Act → World → Prop} {J : (Nat → Bool) → (Nat → Value) → World → Prop} {a0 : Act}
theorem RFr.in_ {l : List Oper} {L : Nat → Bool} {vals : Nat → Value} {a : Act} (hf : RFr l.toArray a0 L vals a) (k t : Nat) {o : Oper} (hL : L k = true) (ho : l[k]? = some o) (hd : o.dst = some t) : a.tmps[t]? = some (vals k) :=
  hf.got k o t hL (by simpa using ho) hd
theorem RFr.out_ {l : List Oper} {L : Nat → Bool} {vals : Nat → Value} {a : Act} (hf : RFr l.toArray a0 L vals a) (t : Nat) (hn : (l.all fun o => o.dst != some t) = true) : a.tmps[t]? = a0.tmps[t]? :=
  hf.old t fun i o _ ho hd => by
    have ho' : l[i]? = some o := by simpa using ho
    have := List.all_eq_true.1 hn o (List.mem_of_getElem? ho')
    rw [hd] at this
    simp at this
theorem bool_no {b : Bool} (h : ¬ b = true) : b = false := by cases b <;> simp_all
end
end Go.Proofs.YtgfdhclpffakfaaGreat
