/- A drawn, guarded region whose last operation stores: each operation but the last yields one value, or (those of S) a value of which a lasting thing is told. -/
import Derived.Test.YtgfdhclpffakfaaGreatZa46
namespace Go.Proofs.YtgfdhclpffakfaaGreat
set_option linter.unusedVariables false
set_option linter.unusedSimpArgs false
open Go.RowKit

section
variable {P : Program} {Q : Exit → Act → World → Prop} {a0 : Act}
theorem wantK_at {l : List Oper} {L : Nat → Bool} {pv vals : Nat → Value} {a : Act} (hf : RFr l.toArray a0 L vals a) {o : Oper} (hg : ∀ j b, o.guard = some (j, b) → L j = true ∧ vals j = pv j) :
    Region.wanted o (yielded l.toArray a.tmps) = wantK l pv o := by
  unfold Region.wanted wantK
  cases hgo : o.guard with
  | none => rfl
  | some jw =>
    obtain ⟨j, want⟩ := jw
    obtain ⟨hL, hv⟩ := hg j want hgo
    simp only [yielded, List.getElem?_toArray]
    cases hlj : l[j]? with
    | none => simp
    | some oj =>
      cases hdj : oj.dst with
      | none => simp [hdj]
      | some t =>
        have h1 := hf.got j oj t hL (by simpa using hlj) hdj
        rw [hv] at h1
        simp only [Option.bind_some, hdj, h1]
        cases pv j <;> simp
def grdS (l : List Oper) (S : List Nat) : Bool := l.all fun o => match o.guard with
  | none => true
  | some (j, _) => !S.contains j
def lastK (l : List Oper) (m : Nat) : Bool := match l[m]? with
  | some om => l.length == m + 1 && om.dst.isNone && (List.range m).all fun k => om.after.any fun e => e.on == k && Region.binds .any e
  | none => false
/-- What is to be shown of an operation. -/
def OpRs (P : Program) (Q : Exit → Act → World → Prop) (l : List Oper) (a0 : Act) (pv : Nat → Value) (S : List Nat) (R : Nat → Value → World → Prop) (Fin : World → Prop) (m : Nat) (w : World) (i : Nat) (o : Oper) : Prop :=
  if wantK l pv o = true then ∀ (L : Nat → Bool) (V : Nat → Value) (a : Act) (w' : World), (∀ k t o', L k = true → l[k]? = some o' → o'.dst = some t → a.tmps[t]? = some (V k)) → (∀ k, L k = true → S.contains k = false → V k = pv k) → (∀ k, L k = true → S.contains k = true → R k (V k) w') →
    (∀ t, (l.all fun o => o.dst != some t) = true → a.tmps[t]? = a0.tmps[t]?) → (∀ e ∈ o.after, Region.binds .any e = true → L e.on = true) → Ex w w' →
    ∀ K : Act → World → Prop, (if i = m then ∀ w'', Fin w'' → K (a.put o.dst undef) w'' else if S.contains i = true then ∀ v w'', R i v w'' → Ex w' w'' → K (a.put o.dst v) w'' else ∀ w'', Ex w' w'' → K (a.put o.dst (pv i)) w'') → o.wp P a w' K Q
  else S.contains i = false ∧ pv i = undef ∧ i ≠ m
theorem wp_region_rs {id : Nat} {l : List Oper} {w : World} (pv : Nat → Value) (S : List Nat) (R : Nat → Value → World → Prop) (Fin : World → Prop) (m : Nat) (hm : P.follows .mixedOrders = true) (hB : rgnH a0.tmps.size l 0 [] = true) (hG : grdK l = true) (hS : grdS l S = true) (hSm : S.contains m = false)
    (hl : lastK l m = true) (hR : ∀ k v w1 w2, R k v w1 → Ex w1 w2 → R k v w2)
    (hs : StepAll (OpRs P Q l a0 pv S R Fin m w) l 0) (he : ∀ V w', Fin w' → Q .normal (putK l V 0 a0) w') : (Code.region id l.toArray true).wp P Q a0 w := by
  unfold lastK at hl
  obtain ⟨om, hom⟩ : ∃ om, l[m]? = some om := by
    cases h : l[m]? with
    | none => rw [h] at hl; cases hl
    | some om => exact ⟨om, rfl⟩
  rw [hom] at hl
  simp only [Bool.and_eq_true, beq_iff_eq] at hl
  obtain ⟨⟨hlen, hnone⟩, hall⟩ := hl
  have hlast : ∀ k, k < m → ∃ e ∈ om.after, (e : Edge).on = k ∧ Region.binds .any e = true := fun k hk => by
    have := List.all_eq_true.1 hall k (List.mem_range.2 hk)
    rw [Array.any_eq_true'] at this
    obtain ⟨e, he, h⟩ := this
    rw [Bool.and_eq_true, beq_iff_eq] at h
    exact ⟨e, he, h.1, h.2⟩
  refine wp_region_invW (fun L V w' => (∀ k, k ≠ m → L k = true → S.contains k = false → V k = pv k) ∧ (L m = false → (∀ k, L k = true → S.contains k = true → R k (V k) w') ∧ Ex w w') ∧ (L m = true → Fin w')) hm hB ⟨fun k _ h => (by cases h), fun _ => ⟨fun k h => (by cases h), (Ex.refl w).drew⟩, fun h => (by cases h)⟩ ?_ ?_
  · have key : ∀ (l' : List Oper) (k0 : Nat), (∀ i o, l'[i]? = some o → l[k0 + i]? = some o) → StepAll (OpRs P Q l a0 pv S R Fin m w) l' k0 → StepAll (OpSw P Q (fun L V w' => (∀ k, k ≠ m → L k = true → S.contains k = false → V k = pv k) ∧ (L m = false → (∀ k, L k = true → S.contains k = true → R k (V k) w') ∧ Ex w w') ∧ (L m = true → Fin w')) l.toArray a0) l' k0 := fun l' => by
      induction l' with
      | nil => intro _ _ _; trivial
      | cons o l' ih =>
        intro k0 hsub h
        refine ⟨?_, ih (k0 + 1) (fun i o' hi => by rw [show k0 + 1 + i = k0 + (i + 1) from by omega]; exact hsub (i + 1) o' hi) h.2⟩
        intro L V a w' hf hj hi hd hcl K hK
        have hok : l[k0]? = some o := by have := hsub 0 o rfl; simpa using this
        have hk0 : k0 < l.length := (List.getElem?_eq_some_iff.1 hok).1
        have hLm : L m = false := by
          by_cases e : k0 = m
          · rw [← e]; exact hi
          · refine bool_no fun hb => ?_
            obtain ⟨e2, h1, h2, h3⟩ := hlast k0 (by omega)
            have := hcl m om hb (by simpa using hom) e2 h1 h3
            rw [h2, hi] at this
            cases this
        obtain ⟨hr, hx⟩ := hj.2.1 hLm
        have hne : ∀ k, L k = true → k ≠ m := fun k hk e => by rw [e, hLm] at hk; cases hk
        have hg : ∀ j b, o.guard = some (j, b) → L j = true ∧ V j = pv j := fun j b hgo => by
          have h1 := List.all_eq_true.1 hG o (List.mem_of_getElem? hok)
          rw [hgo] at h1
          simp only [Array.any_eq_true'] at h1
          obtain ⟨e, he, h2⟩ := h1
          rw [Bool.and_eq_true, beq_iff_eq] at h2
          have hL : L j = true := by rw [← h2.1]; exact hd e he h2.2
          have h3 := List.all_eq_true.1 hS o (List.mem_of_getElem? hok)
          rw [hgo] at h3
          exact ⟨hL, hj.1 j (hne j hL) hL (by simpa using h3)⟩
        rw [wantK_at hf hg]
        have h1 := h.1
        unfold OpRs at h1
        have hnx : ∀ v w'', k0 ≠ m → Ex w' w'' → (S.contains k0 = false → v = pv k0) → (S.contains k0 = true → R k0 v w'') → K (a.put o.dst v) w'' := fun v w'' h0 hx2 hv hv2 => hK v w'' ⟨fun k hkm hk hk2 => by
          by_cases e : k = k0
          · subst e; rw [upd_same]; exact hv hk2
          · rw [upd_ne _ _ e] at hk ⊢; exact hj.1 k hkm hk hk2, fun hb => ⟨fun k hk hk2 => by
            by_cases e : k = k0
            · subst e; rw [upd_same]; exact hv2 hk2
            · rw [upd_ne _ _ e] at hk ⊢; exact hR _ _ _ _ (hr k hk hk2) hx2, hx.trans hx2⟩, fun hb => by
            rw [upd_ne _ _ (fun e => h0 e.symm)] at hb
            rw [hLm] at hb; cases hb⟩
        by_cases hw : wantK l pv o = true
        · rw [if_pos hw] at h1 ⊢
          refine h1 L V a w' (fun k t o' hk ho' hd' => hf.in_ k t hk ho' hd') (fun k hk hk2 => hj.1 k (hne k hk) hk hk2) hr (fun t ht => hf.out_ t ht) hd hx K ?_
          by_cases e : k0 = m
          · rw [if_pos e]
            intro w'' hfin
            refine hK undef w'' ⟨fun k hkm hk hk2 => ?_, fun hb => ?_, fun _ => hfin⟩
            · rw [upd_ne _ _ (fun e2 => hkm (e2.trans e))] at hk ⊢
              exact hj.1 k hkm hk hk2
            · rw [e, upd_same] at hb; cases hb
          · rw [if_neg e]
            by_cases hc : S.contains k0 = true
            · rw [if_pos hc]
              exact fun v w'' hv hx2 => hnx v w'' e hx2 (fun h => by rw [hc] at h; cases h) (fun _ => hv)
            · rw [if_neg hc]
              exact fun w'' hx2 => hnx _ w'' e hx2 (fun _ => rfl) (fun h => absurd h hc)
        · rw [if_neg hw] at h1 ⊢
          exact hnx undef w' h1.2.2 (Ex.refl _) (fun _ => h1.2.1.symm) (fun h => by rw [h1.1] at h; cases h)
    exact key l 0 (fun i o h => by rw [Nat.zero_add]; exact h) hs
  · intro L V w' hall2 hj
    exact he V w' (hj.2.2 (hall2 m (by omega)))
theorem OpRs.off {l : List Oper} {pv : Nat → Value} {S : List Nat} {R : Nat → Value → World → Prop} {Fin : World → Prop} {m : Nat} {w : World} {i : Nat} {o : Oper} (hw : wantK l pv o = false) (h : S.contains i = false ∧ pv i = undef ∧ i ≠ m) : OpRs P Q l a0 pv S R Fin m w i o := by
  unfold OpRs; rw [if_neg (by rw [hw]; decide)]; exact h
theorem OpRs.val {l : List Oper} {pv : Nat → Value} {S : List Nat} {R : Nat → Value → World → Prop} {Fin : World → Prop} {m : Nat} {w : World} {i : Nat} {o : Oper} (hw : wantK l pv o = true) (hi : i ≠ m) (hS : S.contains i = false) (h : ∀ (L : Nat → Bool) (V : Nat → Value) (a : Act) (w' : World), (∀ k t o', L k = true → l[k]? = some o' → o'.dst = some t → a.tmps[t]? = some (V k)) → (∀ k, L k = true → S.contains k = false → V k = pv k) → (∀ k, L k = true → S.contains k = true → R k (V k) w') →
    (∀ t, (l.all fun o => o.dst != some t) = true → a.tmps[t]? = a0.tmps[t]?) → (∀ e ∈ o.after, Region.binds .any e = true → L e.on = true) → Ex w w' →
    ∀ K : Act → World → Prop, (∀ w'', Ex w' w'' → K (a.put o.dst (pv i)) w'') → o.wp P a w' K Q) : OpRs P Q l a0 pv S R Fin m w i o := by
  unfold OpRs; rw [if_pos hw]; simp only [if_neg hi, hS]; exact h
theorem OpRs.rel {l : List Oper} {pv : Nat → Value} {S : List Nat} {R : Nat → Value → World → Prop} {Fin : World → Prop} {m : Nat} {w : World} {i : Nat} {o : Oper} (hw : wantK l pv o = true) (hi : i ≠ m) (hS : S.contains i = true) (h : ∀ (L : Nat → Bool) (V : Nat → Value) (a : Act) (w' : World), (∀ k t o', L k = true → l[k]? = some o' → o'.dst = some t → a.tmps[t]? = some (V k)) → (∀ k, L k = true → S.contains k = false → V k = pv k) → (∀ k, L k = true → S.contains k = true → R k (V k) w') →
    (∀ t, (l.all fun o => o.dst != some t) = true → a.tmps[t]? = a0.tmps[t]?) → (∀ e ∈ o.after, Region.binds .any e = true → L e.on = true) → Ex w w' →
    ∀ K : Act → World → Prop, (∀ v w'', R i v w'' → Ex w' w'' → K (a.put o.dst v) w'') → o.wp P a w' K Q) : OpRs P Q l a0 pv S R Fin m w i o := by
  unfold OpRs; rw [if_pos hw]; simp only [if_neg hi, hS, if_true]; exact h
theorem OpRs.fin {l : List Oper} {pv : Nat → Value} {S : List Nat} {R : Nat → Value → World → Prop} {Fin : World → Prop} {m : Nat} {w : World} {o : Oper} (hw : wantK l pv o = true) (h : ∀ (L : Nat → Bool) (V : Nat → Value) (a : Act) (w' : World), (∀ k t o', L k = true → l[k]? = some o' → o'.dst = some t → a.tmps[t]? = some (V k)) → (∀ k, L k = true → S.contains k = false → V k = pv k) → (∀ k, L k = true → S.contains k = true → R k (V k) w') →
    (∀ t, (l.all fun o => o.dst != some t) = true → a.tmps[t]? = a0.tmps[t]?) → (∀ e ∈ o.after, Region.binds .any e = true → L e.on = true) → Ex w w' →
    ∀ K : Act → World → Prop, (∀ w'', Fin w'' → K (a.put o.dst undef) w'') → o.wp P a w' K Q) : OpRs P Q l a0 pv S R Fin m w m o := by
  unfold OpRs; rw [if_pos hw]; simp only [if_true]; exact h
end
end Go.Proofs.YtgfdhclpffakfaaGreat
