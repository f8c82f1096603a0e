/- Small helpers over any program: worlds that only grow, slices that read as lists of cells. -/
/- Plain: the least elements of a group's cosets; the canonical chain. -/
import Derived.Test.YtgfdhclpffakfaaGreatRows
import Derived.WalkKit
import Derived.WalkSpells
import Derived.Deep.RegionWith
import Derived.Deep.QuietTactic
import Derived.BigQuiet
import Derived.WalkLawsBesides
import Derived.Test.YtgfdhclpffakfaaGreatZa01
namespace Go.Proofs.YtgfdhclpffakfaaGreat
set_option linter.unusedVariables false
set_option linter.unusedSimpArgs false
open Go.RowKit

theorem hid_ {p : Prop} (h : p) : Hid p := h
theorem ret_int {k : IntKind} {a b : Int} (h : a = b) : Ending.returned (.int k a) = .returned (.int k b) := by rw [h]
theorem ret_bool {a b : Bool} (h : a = b) : Ending.returned (.bool a) = .returned (.bool b) := by rw [h]
/-- The world has only grown. -/
def Ex (w w' : World) : Prop := Below w.heap.size w w'
theorem Ex.refl (w : World) : Ex w w := Below.refl _ _
theorem Ex.trans {a b c : World} (h : Ex a b) (k : Ex b c) : Ex a c := Below.trans h (Below.mono k h.size)
theorem Ex.drew {a b : World} (h : Ex a b) : Ex a b.drew := Below.drew h
theorem Ex.drewN {a b : World} (h : Ex a b) (n : Nat) : Ex a (b.drewN n) := below_drewN h n
theorem Ex.alloc {a b : World} (h : Ex a b) (o : Obj) : Ex a (b.alloc o) := Below.alloc h h.size o
theorem Ex.setCell {a b : World} (h : Ex a b) {p : Addr} (hp : a.heap.size ≤ p.block) (u : Value) : Ex a (b.setCell p u) := Below.setCell h hp u
theorem Ex.cell {w w' : World} (h : Ex w w') {p : Addr} {u : Value} (hc : w.cell? p = some u) : w'.cell? p = some u :=
  (Below.cell h (World.block_lt_of_cell? w _ hc)).trans hc
/-- A slice that reads as these cells, `size` of them for each element. -/
def Sl (w : World) (v : Value) (n size : Nat) (xs : List Value) : Prop :=
  xs.length = n * size ∧ ∃ a cap, v = .slice a n cap ∧ n ≤ cap ∧ cap ≤ maxLen ∧
    (0 < n → ∃ b o, a = some ⟨b, o, none⟩ ∧ ∀ j u, xs[j]? = some u → w.cell? ⟨b, o + j, none⟩ = some u)
theorem Sl.ex {w w' : World} {v : Value} {n size : Nat} {xs : List Value} (h : Sl w v n size xs) (hx : Ex w w') : Sl w' v n size xs := by
  obtain ⟨h1, a, cap, h2, h3, h4, h5⟩ := h
  refine ⟨h1, a, cap, h2, h3, h4, fun hn => ?_⟩
  obtain ⟨b, o, h6, h7⟩ := h5 hn
  exact ⟨b, o, h6, fun j u hu => hx.cell (h7 j u hu)⟩
theorem Sl.nil (w : World) (size : Nat) : Sl w (.slice none 0 0) 0 size [] := ⟨by simp, none, 0, rfl, Nat.le_refl _, by unfold maxLen; omega, fun h => absurd h (by omega)⟩
theorem Sl.own {w : World} {base : Nat} {e : TypeId} {size : Nat} {v : Value} {n : Nat} {xs : List Value} (h : w.ownsRow base e size v n xs) : Sl w v n size xs := by
  refine ⟨h.1, ?_⟩
  rcases h.2 with ⟨h2, h3⟩ | ⟨g, cap, cur, hv, hb, hg, h1, h2, h3, h4⟩
  · exact ⟨none, 0, by rw [h2, h3], by omega, by unfold maxLen; omega, fun h => by omega⟩
  · refine ⟨some ⟨g, 0, none⟩, cap, hv, h1, h2, fun _ => ⟨g, 0, rfl, fun j u hu => ?_⟩⟩
    rw [Nat.zero_add, cell_of_row w g j cur e (0, 0) hg]
    rw [← h4, List.getElem?_take] at hu
    split at hu
    · simpa using hu
    · cases hu
theorem ownsRow_setCell_ne {w : World} {base : Nat} {e : TypeId} {size : Nat} {v : Value} {n : Nat} {xs : List Value} (h : w.ownsRow base e size v n xs) {a : Addr} (ha : v.ownBlock ≠ some a.block) (u : Value) : (w.setCell a u).ownsRow base e size v n xs := by
  refine h.kept (row := some a.block) ⟨rfl, rfl, rfl, by simp [World.setCell], fun k _ hk => Below.heap_setCell _ _ _ _ (fun e => hk (by rw [e]))⟩ ?_
  exact .inr ha
theorem ownsRow_ex {w w' : World} {base : Nat} {e : TypeId} {size : Nat} {v : Value} {n : Nat} {xs : List Value} (h : w.ownsRow base e size v n xs) (hx : Ex w w') : w'.ownsRow base e size v n xs := by
  refine h.kept (row := none) ⟨hx.os, hx.tape, hx.output, hx.size, fun k hk _ => hx.block k hk⟩ ?_
  cases v.ownBlock <;> simp
/-- Behind an append by 'wpList_append_own'. -/
theorem Ex.grown {a w w' : World} {base : Nat} {e : TypeId} {size : Nat} {v : Value} {n : Nat} {xs : List Value} (h : Ex a w) (hown : w.ownsRow base e size v n xs) (hb : a.heap.size ≤ base) (hg : w.grownBy w' v.ownBlock) : Ex a w' :=
  Below.grown h hg h.size (fun k hk => Nat.le_trans hb (hown.lt k hk).1)
theorem cell_set_off {w : World} {B i j : Nat} {u : Value} (h : i ≠ j) : (w.setCell ⟨B, i, none⟩ u).cell? ⟨B, j, none⟩ = w.cell? ⟨B, j, none⟩ :=
  World.cell?_setCell_other _ _ _ _ (by intro e; injection e; omega)
theorem w64 {x : Int} (h1 : -9223372036854775808 ≤ x) (h2 : x ≤ 9223372036854775807) : wrap64 x = x := IntWalk.wrap64_in _ ⟨h1, h2⟩
/-- The ints of a slice as cells. -/
def ints (l : List Int) : List Value := l.map (Value.int .i64)
theorem ints_length (l : List Int) : (ints l).length = l.length := List.length_map _
theorem ints_get {l : List Int} {j : Nat} {x : Int} (h : l[j]? = some x) : (ints l)[j]? = some (.int .i64 x) := by simp [ints, h]
/-- A slice of ints that reads as a list. -/
def ISl (w : World) (v : Value) (l : List Int) : Prop := Sl w v l.length 1 (ints l)
theorem ISl.ex {w w' : World} {v : Value} {l : List Int} (h : ISl w v l) (hx : Ex w w') : ISl w' v l := Sl.ex h hx
/-- What the walk wants of such a slice. -/
theorem ISl.open {w : World} {v : Value} {l : List Int} (h : ISl w v l) : ∃ a cap, v = .slice a l.length cap ∧ l.length ≤ cap ∧ cap ≤ maxLen ∧
    (0 < l.length → ∃ b o, a = some ⟨b, o, none⟩ ∧ ∀ j x, l[j]? = some x → w.cell? ⟨b, o + j, none⟩ = some (.int .i64 x)) := by
  obtain ⟨h1, a, cap, h2, h3, h4, h5⟩ := h
  refine ⟨a, cap, h2, h3, h4, fun hn => ?_⟩
  obtain ⟨b, o, h6, h7⟩ := h5 hn
  exact ⟨b, o, h6, fun j x hx => h7 j _ (ints_get hx)⟩
theorem quiet_draw {P : Program} {f : FuncId} {args : Array Value} {w : World} {n : Nat} {v : Value}
    (h : Calls P f args (w.drewN n) fun e w' => e = .returned v ∧ ∃ k, w' = (w.drewN n).drewN k) : Calls P f args (w.drewN n) fun e w'' => e = .returned v ∧ ∃ m, w'' = w.drewN m :=
  h.mono fun _ _ ⟨he, k, hm⟩ => ⟨he, n + k, by rw [hm, World.drewN_drewN]⟩
theorem wf_i64_rng {n : Int} (h : (Lit.int .i64 n).wf = true) : -9223372036854775808 ≤ n ∧ n ≤ 9223372036854775807 := by
  simp [Lit.wf, IntKind.min, IntKind.max, IntKind.signed, IntKind.bits] at h
  omega
end Go.Proofs.YtgfdhclpffakfaaGreat
namespace Go.Proofs.YtgfdhclpffakfaaGreat
set_option linter.unusedVariables false
set_option linter.unusedSimpArgs false

/-- f is not behind g in lexicographic order. -/
def LexLe (n : Nat) (f g : Nat → Nat) : Prop := (∀ i, i < n → f i = g i) ∨ ∃ i, i < n ∧ (∀ j, j < i → f j = g j) ∧ f i < g i
theorem LexLe.antisymm {n : Nat} {f g : Nat → Nat} (hf : IsP n f) (hg : IsP n g) (h : LexLe n f g) (k : LexLe n g f) : f = g := by
  rcases h with h | ⟨i, hi, h1, h2⟩
  · exact isP_ext hf hg h
  · rcases k with k | ⟨j, hj, k1, k2⟩
    · have := k i hi; omega
    · rcases Nat.lt_trichotomy i j with e | e | e
      · have := k1 i e; omega
      · subst e; omega
      · have := h1 j e; omega
/-- The point of a level whose image is least. -/
def bestK (R : Nat → Option (Nat → Nat)) (p : Nat → Nat) (c : Nat) : Nat → Nat
  | 0 => c
  | x + 1 => if (R x).isSome = true ∧ p x < p (bestK R p c x) then x else bestK R p c x
theorem bestK_facts {R : Nat → Option (Nat → Nat)} {p : Nat → Nat} {c : Nat} (hc : (R c).isSome = true) : ∀ x, (R (bestK R p c x)).isSome = true ∧ (∀ y, y < x → (R y).isSome = true → p (bestK R p c x) ≤ p y) ∧ p (bestK R p c x) ≤ p c
  | 0 => ⟨hc, fun y h => by omega, Nat.le_refl _⟩
  | x + 1 => by
    obtain ⟨h1, h2, h3⟩ := bestK_facts (p := p) hc x
    unfold bestK
    split
    · rename_i h
      refine ⟨h.1, fun y hy hr => ?_, by omega⟩
      by_cases e : y = x
      · subst e; exact Nat.le_refl _
      · have := h2 y (by omega) hr; omega
    · rename_i h
      refine ⟨h1, fun y hy hr => ?_, h3⟩
      by_cases e : y = x
      · subst e
        apply Classical.byContradiction
        intro hn
        exact h ⟨hr, by omega⟩
      · exact h2 y (by omega) hr
/-- The canonical representative, k levels from c on. -/
def cnR (n : Nat) (R : Nat → Nat → Option (Nat → Nat)) : Nat → Nat → (Nat → Nat) → (Nat → Nat)
  | 0, _, p => p
  | k + 1, c, p => cnR n R k (c + 1) (thenP ((R c (bestK (R c) p c n)).getD idP) p)
theorem cn_least {n : Nat} {t : Tw} (hG : GoodT n t) : ∀ k c p, c + k = n → IsP n p →
    (∃ h, IsP n h ∧ FixP c h ∧ Sf n t.R k c h ∧ cnR n t.R k c p = thenP h p) ∧ ∀ h, IsP n h → FixP c h → Sf n t.R k c h → LexLe n (cnR n t.R k c p) (thenP h p)
  | 0, c, p, hc, hp => by
    refine ⟨⟨idP, isP_id n, fix_id _, trivial, rfl⟩, fun h hP hF _ => .inl fun i hi => ?_⟩
    have : h = idP := FixP.all hP (by have : c = n := by omega
                                      subst this; exact hF)
    subst this; rfl
  | k + 1, c, p, hc, hp => by
    have hone := hG.one c (by omega)
    obtain ⟨hb1, hb2, _⟩ := bestK_facts (R := t.R c) (p := p) (c := c) (by rw [hone]; rfl) n
    obtain ⟨r, hr⟩ := Option.isSome_iff_exists.1 hb1
    obtain ⟨_, hbn, hrP, hrF, hrb⟩ := hG.rep _ _ _ hr
    obtain ⟨⟨h0, h0P, h0F, h0S, h0e⟩, hL⟩ := cn_least hG k (c + 1) (thenP r p) (by omega) (hrP.comp hp)
    have he : cnR n t.R (k + 1) c p = cnR n t.R k (c + 1) (thenP r p) := by
      show cnR n t.R k (c + 1) (thenP ((t.R c (bestK (t.R c) p c n)).getD idP) p) = _
      rw [hr]; rfl
    rw [he]
    have hfix : ∀ i, i < c → h0 i = i := fun i hi => h0F i (by omega)
    refine ⟨⟨thenP h0 r, h0P.comp hrP, fun i hi => ?_, ⟨r, ?_, ?_⟩, ?_⟩, fun h hP hF hS => ?_⟩
    · show r (h0 i) = i
      rw [hfix i hi, hrF i hi]
    · show t.R c (r (h0 c)) = some r
      rw [h0F c (by omega), hrb]; exact hr
    · rw [thenP_assoc, hrP.then_inv]; exact h0S
    · rw [h0e]; rfl
    · obtain ⟨s, hs1, hs2⟩ := hS
      obtain ⟨_, hsn, hsP, hsF, hsb⟩ := hG.rep _ _ _ hs1
      have hle := hb2 (h c) hsn (by rw [hs1]; rfl)
      by_cases e : p (bestK (t.R c) p c n) = p (h c)
      · have e2 := hp.inj _ _ e
        rw [← e2, hr] at hs1
        injection hs1 with hs1
        subst hs1
        have := hL (thenP h (invP n r)) (hP.comp hrP.inv) (hF.div hrP hrF (by rw [hrb, e2])) hs2
        rwa [← thenP_assoc, hrP.cancel] at this
      · right
        refine ⟨c, by omega, fun j hj => ?_, ?_⟩
        · rw [h0e]
          show p (r (h0 j)) = p (h j)
          rw [hfix j hj, hrF j hj, hF j hj]
        · rw [h0e]
          show p (r (h0 c)) < p (h c)
          rw [h0F c (by omega), hrb]; omega
/-- The least element of the group that fixes the points below b and maps b to x. -/
structure LeastP (n : Nat) (S : List (Nat → Nat)) (b x : Nat) (f : Nat → Nat) : Prop where
  gn : Gn S f
  fix : FixP b f
  at_ : f b = x
  le : ∀ g, Gn S g → FixP b g → g b = x → LexLe n f g
theorem LeastP.uniq {n : Nat} {S : List (Nat → Nat)} (hS : ∀ s ∈ S, IsP n s) {b x : Nat} {f g : Nat → Nat} (hf : LeastP n S b x f) (hg : LeastP n S b x g) : f = g :=
  LexLe.antisymm (hf.gn.isP hS) (hg.gn.isP hS) (hf.le g hg.gn hg.fix hg.at_) (hg.le f hf.gn hf.fix hf.at_)
/-- What the tower's canon gives. -/
theorem BldT.canon {n k : Nat} {S : List (Nat → Nat)} {t : Tw} (hn : 1 ≤ n) (hS : ∀ s ∈ S, IsP n s) (h : BldT n S t k) (hk : S.length ≤ k) {b x : Nat} (hb : b < n) {r : Nat → Nat} (hr : t.R b x = some r) : LeastP n S b x (cnR n t.R (n - (b + 1)) (b + 1) r) := by
  obtain ⟨_, _, hrP, hrF, hrb⟩ := h.good.rep _ _ _ hr
  obtain ⟨⟨h0, h0P, h0F, h0S, h0e⟩, hL⟩ := cn_least h.good (n - (b + 1)) (b + 1) r (by omega) hrP
  have h0G := (h.grp hn hS hk (by omega) h0P h0F).1 h0S
  have hrG : Gn S r := h.snd.1 b x r (Nat.zero_le _) hr
  refine ⟨by rw [h0e]; exact h0G.mul hrG, fun i hi => ?_, ?_, fun g hg hF hgb => ?_⟩
  · rw [h0e]
    show r (h0 i) = i
    rw [h0F i (by omega), hrF i hi]
  · rw [h0e]
    show r (h0 b) = x
    rw [h0F b (by omega), hrb]
  · have hgP := hg.isP hS
    have h1 : FixP (b + 1) (thenP g (invP n r)) := hF.div hrP hrF (by rw [hrb, hgb])
    have h2 := (h.grp hn hS hk (by omega) (hgP.comp hrP.inv) h1).2 (hg.mul (hrG.inv hS))
    have := hL _ (hgP.comp hrP.inv) h1 h2
    rwa [hrP.cancel] at this
open Classical in
noncomputable def lstP (n : Nat) (S : List (Nat → Nat)) (b x : Nat) : Nat → Nat := if h : ∃ f, LeastP n S b x f then Classical.choose h else idP
open Classical in
theorem lstP_eq {n : Nat} {S : List (Nat → Nat)} (hS : ∀ s ∈ S, IsP n s) {b x : Nat} {f : Nat → Nat} (h : LeastP n S b x f) : lstP n S b x = f := by
  have he : ∃ f, LeastP n S b x f := ⟨f, h⟩
  unfold lstP
  rw [dif_pos he]
  exact LeastP.uniq hS (Classical.choose_spec he) h
/-- A level of a chain: point, orbit, representatives. -/
structure Lv where
  pt : Int
  orb : List Int
  reps : List (List Int)
end Go.Proofs.YtgfdhclpffakfaaGreat
