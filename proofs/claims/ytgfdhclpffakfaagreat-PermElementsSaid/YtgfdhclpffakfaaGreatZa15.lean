/- Plain: orbits under a list of permutations. -/
import Derived.Test.YtgfdhclpffakfaaGreatZa00
namespace Go.Proofs.YtgfdhclpffakfaaGreat
set_option linter.unusedVariables false
set_option linter.unusedSimpArgs false

/-- y is the image of x under a word in the generators. -/
def RchS (S : List (Nat → Nat)) (x y : Nat) : Prop := ∃ f, Gn S f ∧ f x = y
theorem RchS.refl (S : List (Nat → Nat)) (x : Nat) : RchS S x x := ⟨idP, .one, rfl⟩
theorem RchS.trans {S : List (Nat → Nat)} {x y z : Nat} (h : RchS S x y) (k : RchS S y z) : RchS S x z := by
  obtain ⟨f, hf, rfl⟩ := h
  obtain ⟨g, hg, rfl⟩ := k
  exact ⟨_, hf.mul hg, rfl⟩
theorem RchS.symm {n : Nat} {S : List (Nat → Nat)} (hS : ∀ s ∈ S, IsP n s) {x y : Nat} (h : RchS S x y) : RchS S y x := by
  obtain ⟨f, hf, rfl⟩ := h
  exact ⟨_, hf.inv hS, (hf.isP hS).inv_l x⟩
theorem RchS.of {S : List (Nat → Nat)} {s : Nat → Nat} (h : s ∈ S) (x : Nat) : RchS S x (s x) := ⟨s, Gn.of h, rfl⟩
theorem RchS.lt {n : Nat} {S : List (Nat → Nat)} (hS : ∀ s ∈ S, IsP n s) {x y : Nat} (hx : x < n) (h : RchS S x y) : y < n := by
  obtain ⟨f, hf, rfl⟩ := h
  exact (hf.isP hS).lt x hx
/-- A set that the generators keep holds what is reached. -/
theorem RchS.closed {S : List (Nat → Nat)} {C : Nat → Prop} (hC : ∀ s ∈ S, ∀ x, C x → C (s x)) {x y : Nat} (hx : C x) (h : RchS S x y) : C y := by
  obtain ⟨f, hf, rfl⟩ := h
  induction hf with
  | one => exact hx
  | step _ hs ih => exact hC _ hs _ ih
/-- i is the least point of its orbit. -/
def LstS (S : List (Nat → Nat)) (i : Nat) : Prop := ∀ y, RchS S i y → i ≤ y
open Classical in
noncomputable def orbN (n : Nat) (S : List (Nat → Nat)) (i : Nat) : List Nat := (List.range n).filter fun y => decide (RchS S i y)
noncomputable def orbL (n : Nat) (S : List (Nat → Nat)) (i : Nat) : List Int := (orbN n S i).map fun (y : Nat) => (y : Int)
open Classical in
noncomputable def orbsK (n : Nat) (S : List (Nat → Nat)) (m : Nat) : List (List Int) := ((List.range m).filter fun i => decide (LstS S i)).map (orbL n S)
open Classical in
theorem mem_orbN {n : Nat} {S : List (Nat → Nat)} {i y : Nat} : y ∈ orbN n S i ↔ y < n ∧ RchS S i y := by
  unfold orbN
  rw [List.mem_filter, List.mem_range, decide_eq_true_eq]
theorem orbN_asc (n : Nat) (S : List (Nat → Nat)) (i : Nat) : (orbN n S i).Pairwise (· < ·) := List.Pairwise.filter _ List.pairwise_lt_range
/-- Two ascending lists with the same members are one. -/
theorem asc_uniq : ∀ {l k : List Nat}, l.Pairwise (· < ·) → k.Pairwise (· < ·) → (∀ x, x ∈ l ↔ x ∈ k) → l = k
  | [], [], _, _, _ => rfl
  | [], b :: k, _, _, h => absurd ((h b).2 (List.mem_cons_self ..)) (List.not_mem_nil)
  | a :: l, [], _, _, h => absurd ((h a).1 (List.mem_cons_self ..)) (List.not_mem_nil)
  | a :: l, b :: k, hl, hk, h => by
    obtain ⟨hl1, hl2⟩ := List.pairwise_cons.1 hl
    obtain ⟨hk1, hk2⟩ := List.pairwise_cons.1 hk
    have hab : a = b := by
      rcases List.mem_cons.1 ((h a).1 (List.mem_cons_self ..)) with h1 | h1
      · exact h1
      · rcases List.mem_cons.1 ((h b).2 (List.mem_cons_self ..)) with h2 | h2
        · exact h2.symm
        · have := hk1 a h1; have := hl1 b h2; omega
    subst hab
    congr 1
    refine asc_uniq hl2 hk2 fun x => ?_
    constructor
    · intro hx
      rcases List.mem_cons.1 ((h x).1 (List.mem_cons_of_mem _ hx)) with h1 | h1
      · have := hl1 x hx; omega
      · exact h1
    · intro hx
      rcases List.mem_cons.1 ((h x).2 (List.mem_cons_of_mem _ hx)) with h1 | h1
      · have := hk1 x hx; omega
      · exact h1
theorem orbsK_succ (n : Nat) (S : List (Nat → Nat)) (m : Nat) : (LstS S m → orbsK n S (m + 1) = orbsK n S m ++ [orbL n S m]) ∧ (¬ LstS S m → orbsK n S (m + 1) = orbsK n S m) := by
  unfold orbsK
  rw [List.range_succ, List.filter_append, List.map_append]
  constructor
  · intro h; simp [List.filter, h]
  · intro h; simp [List.filter, h]
theorem orbsK_len (n : Nat) (S : List (Nat → Nat)) (m : Nat) : (orbsK n S m).length ≤ m := by
  unfold orbsK
  rw [List.length_map]
  exact Nat.le_trans (List.length_filter_le _ _) (by simp)
/-- Points whose orbit meets those below i. -/
def SeenS (S : List (Nat → Nat)) (i x : Nat) : Prop := ∃ y, RchS S x y ∧ y < i
theorem seenS_self {S : List (Nat → Nat)} {i : Nat} : SeenS S i i ↔ ¬ LstS S i := by
  constructor
  · rintro ⟨y, h1, h2⟩ h3
    have := h3 y h1; omega
  · intro h
    apply Classical.byContradiction
    intro h2
    refine h fun y hy => ?_
    apply Classical.byContradiction
    intro h3
    exact h2 ⟨y, hy, by omega⟩
theorem seenS_next {n : Nat} {S : List (Nat → Nat)} (hS : ∀ s ∈ S, IsP n s) {i x : Nat} : SeenS S (i + 1) x ↔ SeenS S i x ∨ RchS S i x := by
  constructor
  · rintro ⟨y, h1, h2⟩
    by_cases h : y < i
    · exact .inl ⟨y, h1, h⟩
    · have : y = i := by omega
      subst this
      exact .inr (h1.symm hS)
  · rintro (⟨y, h1, h2⟩ | h)
    · exact ⟨y, h1, by omega⟩
    · exact ⟨i, h.symm hS, by omega⟩
theorem seenS_no {n : Nat} {S : List (Nat → Nat)} (hS : ∀ s ∈ S, IsP n s) {i x : Nat} (h : ¬ LstS S i) : SeenS S (i + 1) x ↔ SeenS S i x := by
  rw [seenS_next hS]
  constructor
  · rintro (h1 | h1)
    · exact h1
    · obtain ⟨y, h2, h3⟩ := seenS_self.2 h
      exact ⟨y, (h1.symm hS).trans h2, h3⟩
  · exact .inl
/-- The search from i behind k points and the first g generators of the next. -/
structure Srch (n : Nat) (S : List (Nat → Nat)) (i : Nat) (q : List Nat) (k g : Nat) : Prop where
  pos : q[0]? = some i
  nd : q.Nodup
  rch : ∀ x ∈ q, RchS S i x
  old : ∀ j x s, j < k → q[j]? = some x → s ∈ S → s x ∈ q
  cur : ∀ j x s, j < g → q[k]? = some x → S[j]? = some s → s x ∈ q
theorem Srch.lt {n : Nat} {S : List (Nat → Nat)} (hS : ∀ s ∈ S, IsP n s) {i : Nat} {q : List Nat} {k g : Nat} (hi : i < n) (h : Srch n S i q k g) : ∀ x ∈ q, x < n := fun x hx => (h.rch x hx).lt hS hi
theorem nodup_inj {q : List Nat} (hnd : q.Nodup) {i j : Nat} (hi : i < q.length) (hj : j < q.length) (e : q[i] = q[j]) : i = j := by
  have h := List.pairwise_iff_getElem.1 (List.nodup_iff_pairwise_ne.1 hnd)
  rcases Nat.lt_trichotomy i j with h1 | h1 | h1
  · exact absurd e (h i j hi hj h1)
  · exact h1
  · exact absurd e.symm (h j i hj hi h1)
theorem nodup_len : ∀ (n : Nat) (q : List Nat), q.Nodup → (∀ x ∈ q, x < n) → q.length ≤ n := by
  intro n q hnd hlt
  apply Classical.byContradiction
  intro hn
  have hget : ∀ i, i < n + 1 → q.getD i 0 < n := fun i hi => by
    rw [List.getD_eq_getElem?_getD, List.getElem?_eq_getElem (by omega)]
    exact hlt _ (List.getElem_mem _)
  obtain ⟨x, hx, e⟩ := surj_of_inj (n + 1) (fun i => q.getD i 0) (fun i hi => by have := hget i hi; omega) (fun i j hi hj e => by
    simp only [List.getD_eq_getElem?_getD] at e
    rw [List.getElem?_eq_getElem (by omega), List.getElem?_eq_getElem (by omega)] at e
    injection (show some q[i] = some q[j] from congrArg some e) with e
    exact nodup_inj hnd (by omega) (by omega) e) n (by omega)
  have := hget x hx
  omega
theorem Srch.len {n : Nat} {S : List (Nat → Nat)} (hS : ∀ s ∈ S, IsP n s) {i : Nat} {q : List Nat} {k g : Nat} (hi : i < n) (h : Srch n S i q k g) : 1 ≤ q.length ∧ q.length ≤ n :=
  ⟨by have := (List.getElem?_eq_some_iff.1 h.pos).1; omega, nodup_len n q h.nd (h.lt hS hi)⟩
theorem Srch.start (n : Nat) (S : List (Nat → Nat)) (i : Nat) : Srch n S i [i] 0 0 :=
  ⟨rfl, by simp, fun x hx => by rw [List.mem_singleton.1 hx]; exact .refl _ _, fun j x s h => by omega, fun j x s h => by omega⟩
theorem Srch.hit {n : Nat} {S : List (Nat → Nat)} {i : Nat} {q : List Nat} {k g x : Nat} {s : Nat → Nat} (h : Srch n S i q k g) (hx : q[k]? = some x) (hs : S[g]? = some s) (hm : s x ∈ q) : Srch n S i q k (g + 1) :=
  ⟨h.pos, h.nd, h.rch, h.old, fun j y t hj hy ht => by
    by_cases e : j = g
    · subst e; rw [hs] at ht; injection ht with ht; rw [hx] at hy; injection hy with hy; subst ht hy; exact hm
    · exact h.cur j y t (by omega) hy ht⟩
theorem Srch.new {n : Nat} {S : List (Nat → Nat)} {i : Nat} {q : List Nat} {k g x : Nat} {s : Nat → Nat} (h : Srch n S i q k g) (hx : q[k]? = some x) (hs : S[g]? = some s) (hm : ¬ s x ∈ q) : Srch n S i (q ++ [s x]) k (g + 1) := by
  have hk := (List.getElem?_eq_some_iff.1 hx).1
  have h0 := (List.getElem?_eq_some_iff.1 h.pos).1
  refine ⟨by rw [List.getElem?_append_left (by omega)]; exact h.pos, ?_, fun y hy => ?_, fun j y t hj hy ht => ?_, fun j y t hj hy ht => ?_⟩
  · rw [List.nodup_append]
    exact ⟨h.nd, by simp, fun a ha b hb e => by rw [List.mem_singleton.1 hb] at e; subst e; exact hm ha⟩
  · rcases List.mem_append.1 hy with h1 | h1
    · exact h.rch y h1
    · rw [List.mem_singleton.1 h1]
      exact (h.rch x (List.mem_of_getElem? hx)).trans (.of (List.mem_of_getElem? hs) x)
  · rw [List.getElem?_append_left (by omega)] at hy
    exact List.mem_append_left _ (h.old j y t hj hy ht)
  · rw [List.getElem?_append_left hk] at hy
    by_cases e : j = g
    · subst e; rw [hs] at ht; injection ht with ht; rw [hx] at hy; injection hy with hy; subst ht hy; simp
    · exact List.mem_append_left _ (h.cur j y t (by omega) hy ht)
theorem Srch.next {n : Nat} {S : List (Nat → Nat)} {i : Nat} {q : List Nat} {k g : Nat} (h : Srch n S i q k g) (hg : S.length ≤ g) : Srch n S i q (k + 1) 0 :=
  ⟨h.pos, h.nd, h.rch, fun j y t hj hy ht => by
    by_cases e : j = k
    · subst e
      obtain ⟨m, hm, e2⟩ := List.getElem_of_mem ht
      exact h.cur m y t (by omega) hy (by rw [List.getElem?_eq_getElem hm, e2])
    · exact h.old j y t (by omega) hy ht, fun j y t hj => by omega⟩
theorem Srch.fin {n : Nat} {S : List (Nat → Nat)} {i : Nat} {q : List Nat} {k g : Nat} (h : Srch n S i q k g) (hk : q.length ≤ k) (y : Nat) : y ∈ q ↔ RchS S i y := by
  refine ⟨h.rch y, fun hr => ?_⟩
  refine RchS.closed (C := fun x => x ∈ q) (fun s hs x hx => ?_) (List.mem_of_getElem? h.pos) hr
  obtain ⟨j, hj, e⟩ := List.getElem_of_mem hx
  exact h.old j x s (by omega) (by rw [List.getElem?_eq_getElem hj, e]) hs
/-- What the search has seen, it has on its list. -/
theorem Srch.seen {n : Nat} {S : List (Nat → Nat)} {i : Nat} {q : List Nat} {k g x : Nat} {s : Nat → Nat} (hl : LstS S i) (h : Srch n S i q k g) (hx : q[k]? = some x) (hs : S[g]? = some s) (hm : SeenS S i (s x) ∨ s x ∈ q) : s x ∈ q := by
  rcases hm with ⟨y, h1, h2⟩ | h1
  · have := hl y (((h.rch x (List.mem_of_getElem? hx)).trans (.of (List.mem_of_getElem? hs) x)).trans h1)
    omega
  · exact h1
end Go.Proofs.YtgfdhclpffakfaaGreat
