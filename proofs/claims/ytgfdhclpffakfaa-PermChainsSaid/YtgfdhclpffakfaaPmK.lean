/- Plain: the least elements of a group's cosets; the canonical chain. -/
import Derived.Test.YtgfdhclpffakfaaPmT
namespace Go.Proofs.Ytgfdhclpffakfaa
set_option linter.unusedVariables false
set_option linter.unusedSimpArgs false

/-- f is not behind g in lexicographic order. -/
def LexLe (n : Nat) (f g : Nat → Nat) : Prop := (∀ i, i < n → f i = g i) ∨ ∃ i, i < n ∧ (∀ j, j < i → f j = g j) ∧ f i < g i
theorem LexLe.antisymm {n : Nat} {f g : Nat → Nat} (hf : IsP n f) (hg : IsP n g) (h : LexLe n f g) (k : LexLe n g f) : f = g := by
  rcases h with h | ⟨i, hi, h1, h2⟩
  · exact isP_ext hf hg h
  · rcases k with k | ⟨j, hj, k1, k2⟩
    · have := k i hi; omega
    · rcases Nat.lt_trichotomy i j with e | e | e
      · have := k1 i e; omega
      · subst e; omega
      · have := h1 j e; omega
/-- The point of a level whose image is least. -/
def bestK (R : Nat → Option (Nat → Nat)) (p : Nat → Nat) (c : Nat) : Nat → Nat
  | 0 => c
  | x + 1 => if (R x).isSome = true ∧ p x < p (bestK R p c x) then x else bestK R p c x
theorem bestK_facts {R : Nat → Option (Nat → Nat)} {p : Nat → Nat} {c : Nat} (hc : (R c).isSome = true) : ∀ x, (R (bestK R p c x)).isSome = true ∧ (∀ y, y < x → (R y).isSome = true → p (bestK R p c x) ≤ p y) ∧ p (bestK R p c x) ≤ p c
  | 0 => ⟨hc, fun y h => by omega, Nat.le_refl _⟩
  | x + 1 => by
    obtain ⟨h1, h2, h3⟩ := bestK_facts (p := p) hc x
    unfold bestK
    split
    · rename_i h
      refine ⟨h.1, fun y hy hr => ?_, by omega⟩
      by_cases e : y = x
      · subst e; exact Nat.le_refl _
      · have := h2 y (by omega) hr; omega
    · rename_i h
      refine ⟨h1, fun y hy hr => ?_, h3⟩
      by_cases e : y = x
      · subst e
        apply Classical.byContradiction
        intro hn
        exact h ⟨hr, by omega⟩
      · exact h2 y (by omega) hr
/-- The canonical representative, k levels from c on. -/
def cnR (n : Nat) (R : Nat → Nat → Option (Nat → Nat)) : Nat → Nat → (Nat → Nat) → (Nat → Nat)
  | 0, _, p => p
  | k + 1, c, p => cnR n R k (c + 1) (thenP ((R c (bestK (R c) p c n)).getD idP) p)
theorem cn_least {n : Nat} {t : Tw} (hG : GoodT n t) : ∀ k c p, c + k = n → IsP n p →
    (∃ h, IsP n h ∧ FixP c h ∧ Sf n t.R k c h ∧ cnR n t.R k c p = thenP h p) ∧ ∀ h, IsP n h → FixP c h → Sf n t.R k c h → LexLe n (cnR n t.R k c p) (thenP h p)
  | 0, c, p, hc, hp => by
    refine ⟨⟨idP, isP_id n, fix_id _, trivial, rfl⟩, fun h hP hF _ => .inl fun i hi => ?_⟩
    have : h = idP := FixP.all hP (by have : c = n := by omega
                                      subst this; exact hF)
    subst this; rfl
  | k + 1, c, p, hc, hp => by
    have hone := hG.one c (by omega)
    obtain ⟨hb1, hb2, _⟩ := bestK_facts (R := t.R c) (p := p) (c := c) (by rw [hone]; rfl) n
    obtain ⟨r, hr⟩ := Option.isSome_iff_exists.1 hb1
    obtain ⟨_, hbn, hrP, hrF, hrb⟩ := hG.rep _ _ _ hr
    obtain ⟨⟨h0, h0P, h0F, h0S, h0e⟩, hL⟩ := cn_least hG k (c + 1) (thenP r p) (by omega) (hrP.comp hp)
    have he : cnR n t.R (k + 1) c p = cnR n t.R k (c + 1) (thenP r p) := by
      show cnR n t.R k (c + 1) (thenP ((t.R c (bestK (t.R c) p c n)).getD idP) p) = _
      rw [hr]; rfl
    rw [he]
    have hfix : ∀ i, i < c → h0 i = i := fun i hi => h0F i (by omega)
    refine ⟨⟨thenP h0 r, h0P.comp hrP, fun i hi => ?_, ⟨r, ?_, ?_⟩, ?_⟩, fun h hP hF hS => ?_⟩
    · show r (h0 i) = i
      rw [hfix i hi, hrF i hi]
    · show t.R c (r (h0 c)) = some r
      rw [h0F c (by omega), hrb]; exact hr
    · rw [thenP_assoc, hrP.then_inv]; exact h0S
    · rw [h0e]; rfl
    · obtain ⟨s, hs1, hs2⟩ := hS
      obtain ⟨_, hsn, hsP, hsF, hsb⟩ := hG.rep _ _ _ hs1
      have hle := hb2 (h c) hsn (by rw [hs1]; rfl)
      by_cases e : p (bestK (t.R c) p c n) = p (h c)
      · have e2 := hp.inj _ _ e
        rw [← e2, hr] at hs1
        injection hs1 with hs1
        subst hs1
        have := hL (thenP h (invP n r)) (hP.comp hrP.inv) (hF.div hrP hrF (by rw [hrb, e2])) hs2
        rwa [← thenP_assoc, hrP.cancel] at this
      · right
        refine ⟨c, by omega, fun j hj => ?_, ?_⟩
        · rw [h0e]
          show p (r (h0 j)) = p (h j)
          rw [hfix j hj, hrF j hj, hF j hj]
        · rw [h0e]
          show p (r (h0 c)) < p (h c)
          rw [h0F c (by omega), hrb]; omega
/-- The least element of the group that fixes the points below b and maps b to x. -/
structure LeastP (n : Nat) (S : List (Nat → Nat)) (b x : Nat) (f : Nat → Nat) : Prop where
  gn : Gn S f
  fix : FixP b f
  at_ : f b = x
  le : ∀ g, Gn S g → FixP b g → g b = x → LexLe n f g
theorem LeastP.uniq {n : Nat} {S : List (Nat → Nat)} (hS : ∀ s ∈ S, IsP n s) {b x : Nat} {f g : Nat → Nat} (hf : LeastP n S b x f) (hg : LeastP n S b x g) : f = g :=
  LexLe.antisymm (hf.gn.isP hS) (hg.gn.isP hS) (hf.le g hg.gn hg.fix hg.at_) (hg.le f hf.gn hf.fix hf.at_)
/-- What the tower's canon gives. -/
theorem BldT.canon {n k : Nat} {S : List (Nat → Nat)} {t : Tw} (hn : 1 ≤ n) (hS : ∀ s ∈ S, IsP n s) (h : BldT n S t k) (hk : S.length ≤ k) {b x : Nat} (hb : b < n) {r : Nat → Nat} (hr : t.R b x = some r) : LeastP n S b x (cnR n t.R (n - (b + 1)) (b + 1) r) := by
  obtain ⟨_, _, hrP, hrF, hrb⟩ := h.good.rep _ _ _ hr
  obtain ⟨⟨h0, h0P, h0F, h0S, h0e⟩, hL⟩ := cn_least h.good (n - (b + 1)) (b + 1) r (by omega) hrP
  have h0G := (h.grp hn hS hk (by omega) h0P h0F).1 h0S
  have hrG : Gn S r := h.snd.1 b x r (Nat.zero_le _) hr
  refine ⟨by rw [h0e]; exact h0G.mul hrG, fun i hi => ?_, ?_, fun g hg hF hgb => ?_⟩
  · rw [h0e]
    show r (h0 i) = i
    rw [h0F i (by omega), hrF i hi]
  · rw [h0e]
    show r (h0 b) = x
    rw [h0F b (by omega), hrb]
  · have hgP := hg.isP hS
    have h1 : FixP (b + 1) (thenP g (invP n r)) := hF.div hrP hrF (by rw [hrb, hgb])
    have h2 := (h.grp hn hS hk (by omega) (hgP.comp hrP.inv) h1).2 (hg.mul (hrG.inv hS))
    have := hL _ (hgP.comp hrP.inv) h1 h2
    rwa [hrP.cancel] at this
open Classical in
noncomputable def lstP (n : Nat) (S : List (Nat → Nat)) (b x : Nat) : Nat → Nat := if h : ∃ f, LeastP n S b x f then Classical.choose h else idP
open Classical in
theorem lstP_eq {n : Nat} {S : List (Nat → Nat)} (hS : ∀ s ∈ S, IsP n s) {b x : Nat} {f : Nat → Nat} (h : LeastP n S b x f) : lstP n S b x = f := by
  have he : ∃ f, LeastP n S b x f := ⟨f, h⟩
  unfold lstP
  rw [dif_pos he]
  exact LeastP.uniq hS (Classical.choose_spec he) h
open Classical in
/-- The orbit of b under the stabilizer of the points below. -/
noncomputable def orbB (n : Nat) (S : List (Nat → Nat)) (b : Nat) : List Nat := (List.range n).filter fun x => decide (∃ f, Gn S f ∧ FixP b f ∧ f b = x)
open Classical in
theorem mem_orbB {n : Nat} {S : List (Nat → Nat)} {b x : Nat} : x ∈ orbB n S b ↔ x < n ∧ ∃ f, Gn S f ∧ FixP b f ∧ f b = x := by
  unfold orbB
  rw [List.mem_filter, List.mem_range, decide_eq_true_eq]
/-- A level of a chain: point, orbit, representatives. -/
structure Lv where
  pt : Int
  orb : List Int
  reps : List (List Int)
end Go.Proofs.Ytgfdhclpffakfaa
