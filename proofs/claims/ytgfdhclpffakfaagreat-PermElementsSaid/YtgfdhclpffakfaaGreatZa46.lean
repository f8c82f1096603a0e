/- As XRgn, for regions with guarded operations: an operation that is not wanted lays undef. -/
import Derived.Test.YtgfdhclpffakfaaGreatZa05
namespace Go.Proofs.YtgfdhclpffakfaaGreat
set_option linter.unusedVariables false
set_option linter.unusedSimpArgs false
open Go.RowKit

/-- Each waits for earlier ones alone, the destinations are distinct and lie in the frame. -/
def rgnH (n : Nat) : List Oper → Nat → List Nat → Bool
  | [], _, _ => true
  | o :: l, k, seen => (o.after.all fun e => !Region.binds .any e || decide (e.on < k)) && (match o.dst with
    | none => rgnH n l (k + 1) seen
    | some d => decide (d < n) && !seen.contains d && rgnH n l (k + 1) (d :: seen))
structure RgnOW (ops : Array Oper) (n : Nat) : Prop where
  wait : ∀ (i : Nat) (o : Oper), ops[i]? = some o → ∀ e ∈ o.after, Region.binds .any e = true → (e : Edge).on < i
  lt : ∀ (i : Nat) (o : Oper) (d : Nat), ops[i]? = some o → o.dst = some d → d < n
  inj : ∀ (i j : Nat) (oi oj : Oper) (d : Nat), ops[i]? = some oi → ops[j]? = some oj → oi.dst = some d → oj.dst = some d → i = j
theorem rgnH_spec (n : Nat) : ∀ (l : List Oper) (k : Nat) (seen : List Nat), rgnH n l k seen = true → ∀ (i : Nat) (o : Oper), l[i]? = some o →
    (∀ e ∈ o.after, Region.binds .any e = true → e.on < k + i) ∧ ∀ d, o.dst = some d → d < n ∧ d ∉ seen ∧ ∀ j oj, j < i → l[j]? = some oj → oj.dst ≠ some d
  | [], _, _, _, i, o, h => by simp at h
  | o :: l, k, seen, h, i, o', hi => by
    unfold rgnH at h
    rw [Bool.and_eq_true] at h
    obtain ⟨h2, h3⟩ := h
    cases i with
    | zero =>
      simp at hi
      subst hi
      refine ⟨fun e he hb => ?_, fun d hd => ?_⟩
      · rw [Array.all_eq_true_iff_forall_mem] at h2
        have := h2 e he
        rw [hb] at this
        simpa using this
      · rw [hd] at h3
        simp only [Bool.and_eq_true] at h3
        refine ⟨by simpa using h3.1.1, by simpa using h3.1.2, fun j oj hj => by omega⟩
    | succ i =>
      simp at hi
      cases hdo : o.dst with
      | none =>
        rw [hdo] at h3
        obtain ⟨b, c⟩ := rgnH_spec n l (k + 1) seen h3 i o' hi
        refine ⟨fun e he hb => by have := b e he hb; omega, fun d hd => ?_⟩
        obtain ⟨c1, c2, c3⟩ := c d hd
        refine ⟨c1, c2, fun j oj hj ho => ?_⟩
        cases j with
        | zero => simp at ho; subst ho; rw [hdo]; simp
        | succ j => simp at ho; exact c3 j oj (by omega) ho
      | some d0 =>
        rw [hdo] at h3
        simp only [Bool.and_eq_true] at h3
        obtain ⟨b, c⟩ := rgnH_spec n l (k + 1) (d0 :: seen) h3.2 i o' hi
        refine ⟨fun e he hb => by have := b e he hb; omega, fun d hd => ?_⟩
        obtain ⟨c1, c2, c3⟩ := c d hd
        refine ⟨c1, fun h => c2 (List.mem_cons_of_mem _ h), fun j oj hj ho => ?_⟩
        cases j with
        | zero =>
          simp at ho; subst ho; rw [hdo]
          intro e
          injection e with e
          exact c2 (by rw [e]; exact List.mem_cons_self ..)
        | succ j => simp at ho; exact c3 j oj (by omega) ho
theorem rgn_ow {l : List Oper} {n : Nat} (h : rgnH n l 0 [] = true) : RgnOW l.toArray n := by
  have key := rgnH_spec n l 0 [] h
  have hg : ∀ (i : Nat) o, l.toArray[i]? = some o → l[i]? = some o := fun i o h => by simpa using h
  refine ⟨fun i o ho e he hb => by have := (key i o (hg i o ho)).1 e he hb; omega, fun i o d ho hd => ((key i o (hg i o ho)).2 d hd).1, fun i j oi oj d hi hj h1 h2 => ?_⟩
  rcases Nat.lt_trichotomy i j with e | e | e
  · exact absurd h1 (((key j oj (hg j oj hj)).2 d h2).2.2 i oi e (hg i oi hi))
  · exact e
  · exact absurd h2 (((key i oi (hg i oi hi)).2 d h1).2.2 j oj e (hg j oj hj))
section
variable {ops : Array Oper} {a0 a a' : Act} {L L' : Nat → Bool} {vals : Nat → Value}
theorem RFr.stepW (H : RgnOW ops a0.tmps.size) (h : RFr ops a0 L vals a) {i : Nat} {o : Oper} (ho : ops[i]? = some o) (v : Value) : RFr ops a0 (upd L i true) (upd vals i v) (a.put o.dst v) := by
  cases hd : o.dst with
  | none =>
    refine ⟨h.sz, h.df, fun j oj d hj hoj hdj => ?_, fun s hn => h.old s fun j oj hj hoj => ?_⟩
    · by_cases e : j = i
      · subst e; rw [ho] at hoj; injection hoj with hoj; subst hoj; rw [hd] at hdj; cases hdj
      · rw [upd_ne _ _ e] at hj ⊢; exact h.got j oj d hj hoj hdj
    · by_cases e : j = i
      · subst e; rw [ho] at hoj; injection hoj with hoj; subst hoj; rw [hd]; simp
      · exact hn j oj (by rw [upd_ne _ _ e]; exact hj) hoj
  | some d0 =>
    have hlt : d0 < a.tmps.size := by rw [h.sz]; exact H.lt i o d0 ho hd
    refine ⟨by show (a.tmps.setIfInBounds d0 v).size = _; rw [Array.size_setIfInBounds]; exact h.sz, h.df, fun j oj d hj hoj hdj => ?_, fun s hn => ?_⟩
    · show (a.tmps.setIfInBounds d0 v)[d]? = _
      by_cases e : j = i
      · subst e; rw [ho] at hoj; injection hoj with hoj; subst hoj; rw [hd] at hdj; injection hdj with hdj; subst hdj
        rw [Array.getElem?_setIfInBounds_self_of_lt hlt, upd_same]
      · have hne : d0 ≠ d := fun e2 => e (H.inj j i oj o d hoj ho hdj (by rw [hd, e2]))
        rw [Array.getElem?_setIfInBounds_ne hne, upd_ne _ _ e]
        rw [upd_ne _ _ e] at hj
        exact h.got j oj d hj hoj hdj
    · show (a.tmps.setIfInBounds d0 v)[s]? = _
      have hne : d0 ≠ s := fun e2 => hn i o (upd_same _ _ _) ho (by rw [hd, e2])
      rw [Array.getElem?_setIfInBounds_ne hne]
      exact h.old s fun j oj hj hoj => by
        by_cases e : j = i
        · subst e; rw [ho] at hoj; injection hoj with hoj; subst hoj; rw [hd]; intro e2; injection e2 with e2; exact hne e2
        · exact hn j oj (by rw [upd_ne _ _ e]; exact hj) hoj
end
theorem RFr.putKW {l0 : List Oper} {a0 : Act} (H : RgnOW l0.toArray a0.tmps.size) (vals : Nat → Value) : ∀ (l pre : List Oper) (a : Act), pre ++ l = l0 → RFr l0.toArray a0 (fun i => decide (i < pre.length)) vals a → RFr l0.toArray a0 (fun i => decide (i < l0.length)) vals (Go.Proofs.YtgfdhclpffakfaaGreat.putK l vals pre.length a)
  | [], pre, a, he, h => by
    rw [List.append_nil] at he; subst he; exact h
  | o :: l, pre, a, he, h => by
    have ho : l0.toArray[pre.length]? = some o := by rw [← he]; simp
    have h1 := h.stepW H ho (vals pre.length)
    have e1 : upd (fun i => decide (i < pre.length)) pre.length true = fun i => decide (i < (pre ++ [o]).length) := by
      funext i
      by_cases e : i = pre.length
      · subst e; rw [upd_same]; simp
      · rw [upd_ne _ _ e]; simp; omega
    have e2 : upd vals pre.length (vals pre.length) = vals := by
      funext i
      by_cases e : i = pre.length
      · subst e; rw [upd_same]
      · rw [upd_ne _ _ e]
    rw [e1, e2] at h1
    have h2 := RFr.putKW H vals l (pre ++ [o]) (a.put o.dst (vals pre.length)) (by rw [← he]; simp) h1
    rw [List.length_append] at h2
    exact h2
section
variable {P : Program} {Q : Exit → Act → World → Prop} {J : (Nat → Bool) → (Nat → Value) → World → Prop} {a0 : Act}
/-- What is to be shown of an operation. -/
def OpSw (P : Program) (Q : Exit → Act → World → Prop) (J : (Nat → Bool) → (Nat → Value) → World → Prop) (ops : Array Oper) (a0 : Act) (i : Nat) (o : Oper) : Prop :=
  ∀ L vals a w, RFr ops a0 L vals a → J L vals w → L i = false → (∀ e ∈ o.after, Region.binds .any e = true → L e.on = true) → (∀ (k : Nat) (o' : Oper), L k = true → ops[k]? = some o' → ∀ e ∈ o'.after, Region.binds .any e = true → L e.on = true) →
    ∀ K : Act → World → Prop, (∀ v w', J (upd L i true) (upd vals i v) w' → K (a.put o.dst v) w') → if Region.wanted o (yielded ops a.tmps) = true then o.wp P a w K Q else K (a.put o.dst undef) w
theorem rgn_anyW {l : List Oper} (H : RgnOW l.toArray a0.tmps.size) (hs : StepAll (OpSw P Q J l.toArray a0) l 0)
    (he : ∀ L vals w, (∀ i, i < l.length → L i = true) → J L vals w → Q .normal (putK l vals 0 a0) w) :
    ∀ fuel (listed : Array Bool) a w vals, listed.size = l.length → (List.range l.length).countP (fun i => !listed.getD i false) ≤ fuel → (∀ (k : Nat) (o' : Oper), listed.getD k false = true → l.toArray[k]? = some o' → ∀ e ∈ o'.after, Region.binds .any e = true → listed.getD e.on false = true) → RFr l.toArray a0 (fun i => listed.getD i false) vals a → J (fun i => listed.getD i false) vals w → wpAny P .any l.toArray Q fuel listed a w := by
  have hend : ∀ (listed : Array Bool) a w vals, listed.size = l.length → (∀ i, i < l.length → listed.getD i false = true) → RFr l.toArray a0 (fun i => listed.getD i false) vals a → J (fun i => listed.getD i false) vals w → Q .normal a w := fun listed a w vals hsz hall hf hj => by
    have h1 := he _ vals w hall hj
    have h2 := RFr.putKW H vals l [] a0 rfl ((RFr.init l.toArray a0 vals).congr fun i hi => by simp)
    have h3 := hf.uniq (h2.congr fun i hi => by
      have hi' : i < l.length := by simpa using hi
      simp only [hi', decide_true]
      exact (hall i hi').symm)
    rw [h3]
    exact h1
  have hall : ∀ (listed : Array Bool), listed.size = l.length → Region.ready .any l.toArray listed = [] → ∀ i, i < l.length → listed.getD i false = true := fun listed hsz hr i => by
    induction i using Nat.strongRecOn with
    | ind i ih =>
      intro hi
      cases hb : listed.getD i false with
      | true => rfl
      | false =>
        exfalso
        have ho : l.toArray[i]? = some l[i] := by simp [hi]
        have hm : i ∈ Region.ready .any l.toArray listed := mem_ready.2 ⟨by
          have hlt : i < listed.size := by omega
          simp [Array.getD, hlt] at hb ⊢
          exact hb, l[i], ho, fun e hem hb => by
          have hw := H.wait i _ ho e hem hb
          exact ih e.on hw (by omega)⟩
        rw [hr] at hm
        cases hm
  intro fuel
  induction fuel with
  | zero =>
    intro listed a w vals hsz hc hcl hf hj
    have ha : ∀ i, i < l.length → listed.getD i false = true := fun i hi => by
      have h0 : (List.range l.length).countP (fun i => !listed.getD i false) = 0 := by omega
      have := List.countP_eq_zero.1 h0 i (List.mem_range.2 hi)
      simpa using this
    refine ⟨?_, hend listed a w vals hsz ha hf hj⟩
    cases hr : Region.ready .any l.toArray listed with
    | nil => rfl
    | cons x t =>
      exfalso
      have hm : x ∈ Region.ready .any l.toArray listed := by rw [hr]; exact List.mem_cons_self ..
      obtain ⟨h1, o, h2, _⟩ := mem_ready.1 hm
      have hx : x < l.length := by simpa using (Array.getElem?_eq_some_iff.1 h2).1
      have h3 := ha x hx
      have hlt : x < listed.size := by omega
      simp [Array.getD, hlt] at h1 h3
      rw [h1] at h3; cases h3
  | succ fuel ih =>
    intro listed a w vals hsz hc hcl hf hj
    refine ⟨fun hr => hend listed a w vals hsz (hall listed hsz hr) hf hj, fun i hi => ?_⟩
    obtain ⟨h1, o, h2, h3⟩ := mem_ready.1 hi
    have hil : i < l.length := by simpa using (Array.getElem?_eq_some_iff.1 h2).1
    have hlt : i < listed.size := by omega
    have hfl : listed.getD i false = false := by
      simp [Array.getD, hlt] at h1 ⊢; exact h1
    have h2' : l[i]? = some o := by simpa using h2
    have hst : OpSw P Q J l.toArray a0 (0 + i) o := hs.get h2'
    rw [Nat.zero_add] at hst
    have hLe : (fun j => (listed.setIfInBounds i true).getD j false) = upd (fun j => listed.getD j false) i true := by
      funext j
      by_cases e : j = i
      · subst e; rw [upd_same]; simp [Array.getD, hlt]
      · rw [upd_ne _ _ e]
        rw [Array.getD_eq_getD_getElem?, Array.getD_eq_getD_getElem?, Array.getElem?_setIfInBounds_ne (fun h => e h.symm)]
    have hcl' : ∀ (k : Nat) (o' : Oper), (listed.setIfInBounds i true).getD k false = true → l.toArray[k]? = some o' → ∀ e ∈ o'.after, Region.binds .any e = true → (listed.setIfInBounds i true).getD e.on false = true := fun k o' hk ho' e he hb => by
      have e1 := congrFun hLe k
      have e2 := congrFun hLe e.on
      rw [e1] at hk
      rw [e2]
      by_cases h0 : e.on = i
      · rw [h0, upd_same]
      · rw [upd_ne _ _ h0]
        by_cases h4 : k = i
        · subst h4
          rw [h2] at ho'
          injection ho' with ho'
          subst ho'
          exact h3 e he hb
        · rw [upd_ne _ _ h4] at hk
          exact hcl k o' hk ho' e he hb
    have hnext : ∀ v w', J (upd (fun j => listed.getD j false) i true) (upd vals i v) w' → wpAny P .any l.toArray Q fuel (listed.setIfInBounds i true) (a.put o.dst v) w' := fun v w' hj' => by
      refine ih _ _ _ (upd vals i v) (by rw [Array.size_setIfInBounds]; exact hsz) ?_ hcl' (by rw [hLe]; exact hf.stepW H h2 v) (by rw [hLe]; exact hj')
      have hcc := cnt_upd (fun j => listed.getD j false) i hfl l.length
      rw [if_pos hil] at hcc
      have hce : (List.range l.length).countP (fun j => !(listed.setIfInBounds i true).getD j false) = (List.range l.length).countP (fun j => !(upd (fun j => listed.getD j false) i true) j) := by
        congr 1
        funext j
        rw [← congrFun hLe j]
      rw [hce]
      omega
    have hcase := hst _ vals a w hf hj hfl (fun e he hb => h3 e he hb) hcl _ hnext
    unfold wpOp
    rw [h2]
    by_cases hw : Region.wanted o (yielded l.toArray a.tmps) = true
    · rw [if_pos hw] at hcase
      simp only [hw, if_true]
      exact .inl hcase
    · rw [if_neg hw] at hcase
      simp only [hw]
      exact hcase
theorem wp_region_invW {id : Nat} {l : List Oper} {w : World} (J : (Nat → Bool) → (Nat → Value) → World → Prop) (hm : P.follows .mixedOrders = true) (hB : rgnH a0.tmps.size l 0 [] = true) (h0 : J (fun _ => false) (fun _ => undef) w.drew)
    (hs : StepAll (OpSw P Q J l.toArray a0) l 0) (he : ∀ L vals w, (∀ i, i < l.length → L i = true) → J L vals w → Q .normal (putK l vals 0 a0) w) : (Code.region id l.toArray true).wp P Q a0 w := by
  refine wp_region_any hm ?_
  have hL : (fun i => (Array.replicate l.toArray.size false).getD i false) = fun _ => false := by
    funext i
    rw [Array.getD_eq_getD_getElem?]
    by_cases h : i < l.toArray.size
    · rw [Array.getElem?_replicate, if_pos h]; rfl
    · rw [Array.getElem?_replicate, if_neg h]; rfl
  refine rgn_anyW (rgn_ow hB) hs he _ _ _ _ (fun _ => undef) (by simp) (Nat.le_trans List.countP_le_length (by simp)) (fun k o' hk => by have := congrFun hL k; rw [this] at hk; cases hk) ?_ ?_
  · rw [hL]; exact RFr.init _ _ _
  · rw [hL]; exact h0
/-- What the guard says, by the values. -/
def wantK (l : List Oper) (pv : Nat → Value) (o : Oper) : Bool := match o.guard with
  | none => true
  | some (j, want) => match (l[j]?).bind (·.dst) with
    | none => false
    | some _ => match pv j with
      | .bool b => b == want
      | _ => false
def grdK (l : List Oper) : Bool := l.all fun o => match o.guard with
  | none => true
  | some (j, _) => o.after.any fun e => e.on == j && Region.binds .any e
end
end Go.Proofs.YtgfdhclpffakfaaGreat
