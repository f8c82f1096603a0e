/- Plain: the list of all elements of a group: search and insertion sort. -/
import Derived.Test.YtgfdhclpffakfaaGreatZa24
namespace Go.Proofs.YtgfdhclpffakfaaGreat
set_option linter.unusedVariables false
set_option linter.unusedSimpArgs false

/-- f is before g in lexicographic order. -/
def LexLt (n : Nat) (f g : Nat → Nat) : Prop := ∃ i, i < n ∧ (∀ j, j < i → f j = g j) ∧ f i < g i
theorem LexLt.trans {n : Nat} {f g h : Nat → Nat} (a : LexLt n f g) (b : LexLt n g h) : LexLt n f h := by
  obtain ⟨i, hi, i1, i2⟩ := a
  obtain ⟨j, hj, j1, j2⟩ := b
  rcases Nat.lt_trichotomy i j with e | e | e
  · exact ⟨i, hi, fun k hk => by rw [i1 k hk, j1 k (by omega)], by rw [← j1 i e]; exact i2⟩
  · subst e; exact ⟨i, hi, fun k hk => by rw [i1 k hk, j1 k hk], by omega⟩
  · exact ⟨j, hj, fun k hk => by rw [i1 k (by omega), j1 k hk], by rw [i1 j e]; exact j2⟩
theorem LexLt.le {n : Nat} {f g : Nat → Nat} (h : LexLt n f g) : LexLe n f g := .inr h
theorem first_diff {n : Nat} {f g : Nat → Nat} : ∀ m, m ≤ n → (∀ i, i < m → f i = g i) ∨ ∃ i, i < m ∧ (∀ j, j < i → f j = g j) ∧ f i ≠ g i
  | 0, _ => .inl fun i h => by omega
  | m + 1, h => by
    rcases first_diff (n := n) (f := f) (g := g) m (by omega) with h1 | ⟨i, h1, h2, h3⟩
    · by_cases e : f m = g m
      · exact .inl fun i hi => by
          by_cases e2 : i = m
          · subst e2; exact e
          · exact h1 i (by omega)
      · exact .inr ⟨m, by omega, h1, e⟩
    · exact .inr ⟨i, by omega, h2, h3⟩
theorem LexLt.total {n : Nat} {f g : Nat → Nat} (hf : IsP n f) (hg : IsP n g) (hne : f ≠ g) (h : ¬ LexLt n f g) : LexLt n g f := by
  rcases first_diff (n := n) (f := f) (g := g) n (Nat.le_refl _) with h1 | ⟨i, h1, h2, h3⟩
  · exact absurd (isP_ext hf hg h1) hne
  · rcases Nat.lt_or_gt_of_ne h3 with h4 | h4
    · exact absurd ⟨i, h1, h2, h4⟩ h
    · exact ⟨i, h1, fun j hj => (h2 j hj).symm, h4⟩
theorem lessS_li {n : Nat} {f g : Nat → Nat} : lessS (li n f) (li n g) = true ↔ LexLt n f g := by
  rcases first_diff (n := n) (f := f) (g := g) n (Nat.le_refl _) with h1 | ⟨i, h1, h2, h3⟩
  · have e : li n f = li n g := li_congr h1
    rw [e, lessS_miss fun j _ => rfl]
    constructor
    · intro h; cases h
    · rintro ⟨i, hi, _, h⟩
      have := h1 i hi
      omega
  · rw [lessS_hit (i := i) (li_get h1 f) (li_get h1 g) (by omega) fun j hj => by rw [li_get (by omega), li_get (by omega), h2 j hj], decide_eq_true_eq]
    constructor
    · intro h; exact ⟨i, h1, h2, by omega⟩
    · rintro ⟨j, hj, j1, j2⟩
      rcases Nat.lt_trichotomy i j with e | e | e
      · exact absurd (j1 i e) h3
      · subst e; omega
      · have := h2 j e; omega
/-- The search for all words, behind k elements and the first g generators of the next. -/
structure SrG (S : List (Nat → Nat)) (q : List (Nat → Nat)) (k g : Nat) : Prop where
  pos : q[0]? = some idP
  nd : q.Nodup
  gn : ∀ f ∈ q, Gn S f
  old : ∀ j f s, j < k → q[j]? = some f → s ∈ S → thenP f s ∈ q
  cur : ∀ j f s, j < g → q[k]? = some f → S[j]? = some s → thenP f s ∈ q
theorem SrG.start (S : List (Nat → Nat)) : SrG S [idP] 0 0 :=
  ⟨rfl, by simp, fun f hf => by rw [List.mem_singleton.1 hf]; exact .one, fun j f s h => by omega, fun j f s h => by omega⟩
theorem SrG.hit {S q : List (Nat → Nat)} {k g : Nat} {f s : Nat → Nat} (h : SrG S q k g) (hf : q[k]? = some f) (hs : S[g]? = some s) (hm : thenP f s ∈ q) : SrG S q k (g + 1) :=
  ⟨h.pos, h.nd, h.gn, h.old, fun j y t hj hy ht => by
    by_cases e : j = g
    · subst e; rw [hs] at ht; injection ht with ht; rw [hf] at hy; injection hy with hy; subst ht hy; exact hm
    · exact h.cur j y t (by omega) hy ht⟩
theorem SrG.new {S q : List (Nat → Nat)} {k g : Nat} {f s : Nat → Nat} (h : SrG S q k g) (hf : q[k]? = some f) (hs : S[g]? = some s) (hm : ¬ thenP f s ∈ q) : SrG S (q ++ [thenP f s]) k (g + 1) := by
  have hk := (List.getElem?_eq_some_iff.1 hf).1
  have h0 := (List.getElem?_eq_some_iff.1 h.pos).1
  refine ⟨by rw [List.getElem?_append_left (by omega)]; exact h.pos, ?_, fun y hy => ?_, fun j y t hj hy ht => ?_, fun j y t hj hy ht => ?_⟩
  · rw [List.nodup_append]
    exact ⟨h.nd, by simp, fun a ha b hb e => by rw [List.mem_singleton.1 hb] at e; subst e; exact hm ha⟩
  · rcases List.mem_append.1 hy with h1 | h1
    · exact h.gn y h1
    · rw [List.mem_singleton.1 h1]
      exact (h.gn f (List.mem_of_getElem? hf)).step (List.mem_of_getElem? hs)
  · rw [List.getElem?_append_left (by omega)] at hy
    exact List.mem_append_left _ (h.old j y t hj hy ht)
  · rw [List.getElem?_append_left hk] at hy
    by_cases e : j = g
    · subst e; rw [hs] at ht; injection ht with ht; rw [hf] at hy; injection hy with hy; subst ht hy; simp
    · exact List.mem_append_left _ (h.cur j y t (by omega) hy ht)
theorem SrG.next {S q : List (Nat → Nat)} {k g : Nat} (h : SrG S q k g) (hg : S.length ≤ g) : SrG S q (k + 1) 0 :=
  ⟨h.pos, h.nd, h.gn, fun j y t hj hy ht => by
    by_cases e : j = k
    · subst e
      obtain ⟨m, hm, e2⟩ := List.getElem_of_mem ht
      exact h.cur m y t (by omega) hy (by rw [List.getElem?_eq_getElem hm, e2])
    · exact h.old j y t (by omega) hy ht, fun j y t hj => by omega⟩
theorem SrG.fin {S q : List (Nat → Nat)} {k g : Nat} (h : SrG S q k g) (hk : q.length ≤ k) (f : Nat → Nat) : f ∈ q ↔ Gn S f := by
  refine ⟨h.gn f, fun hr => ?_⟩
  induction hr with
  | one => exact List.mem_of_getElem? h.pos
  | step _ hs ih =>
    obtain ⟨j, hj, e⟩ := List.getElem_of_mem ih
    exact h.old j _ _ (by omega) (by rw [List.getElem?_eq_getElem hj, e]) hs
/-- The list is short: by the numbers of its elements. -/
theorem SrG.len {n : Nat} {S q : List (Nat → Nat)} {k g : Nat} (hn : n ≤ 6) (hS : ∀ s ∈ S, IsP n s) (h : SrG S q k g) : 1 ≤ q.length ∧ q.length ≤ 46656 := by
  refine ⟨by have := (List.getElem?_eq_some_iff.1 h.pos).1; omega, ?_⟩
  have hP : ∀ f ∈ q, IsP n f := fun f hf => (h.gn f hf).isP hS
  have hlt : ∀ f ∈ q, ∀ i, i < n → f i < 6 := fun f hf i hi => by have := (hP f hf).lt i hi; omega
  have := nodup_len 46656 (q.map fun f => codeN f n) (by
    have h1 := List.nodup_iff_pairwise_ne.1 h.nd
    rw [List.nodup_iff_pairwise_ne, List.pairwise_map]
    refine List.Pairwise.imp_of_mem (fun {a b} ha hb hab e => hab ?_) h1
    exact isP_ext (hP a ha) (hP b hb) (codeN_inj n (hlt a ha) (hlt b hb) e)) fun x hx => by
    obtain ⟨f, hf, rfl⟩ := List.mem_map.1 hx
    exact codeN_small hn (hlt f hf)
  rwa [List.length_map] at this
/-- Insertion: the element j of the first i + 1 is on its way. -/
structure InsI (n m i j : Nat) (A : Nat → Nat → Nat) : Prop where
  hj : j ≤ i
  hi : i < m
  srt : ∀ a b, a < b → b ≤ i → b ≠ j → LexLt n (A a) (A b)
theorem InsI.start {n m i : Nat} {A : Nat → Nat → Nat} (hi : i < m) (h : ∀ a b, a < b → b < i → LexLt n (A a) (A b)) : InsI n m i i A :=
  ⟨Nat.le_refl _, hi, fun a b hab hb hne => h a b hab (by omega)⟩
def swpP (A : Nat → Nat → Nat) (j : Nat) : Nat → Nat → Nat := fun x => if x = j + 1 then A j else if x = j then A (j + 1) else A x
theorem InsI.swap {n m i j : Nat} {A : Nat → Nat → Nat} (h : InsI n m i (j + 1) A) (hl : LexLt n (A (j + 1)) (A j)) : InsI n m i j (swpP A j) := by
  have hji := h.hj
  refine ⟨by omega, h.hi, fun a b hab hb hne => ?_⟩
  unfold swpP
  by_cases e1 : b = j + 1
  · subst e1
    rw [if_pos rfl]
    by_cases e2 : a = j
    · subst e2; rw [if_neg (by omega), if_pos rfl]; exact hl
    · rw [if_neg (by omega), if_neg e2]; exact h.srt a j (by omega) (by omega) (by omega)
  · rw [if_neg e1, if_neg hne]
    by_cases e2 : a = j + 1
    · subst e2; rw [if_pos rfl]; exact h.srt j b (by omega) hb e1
    · rw [if_neg e2]
      by_cases e3 : a = j
      · subst e3; rw [if_pos rfl]; exact h.srt (a + 1) b (by omega) hb e1
      · rw [if_neg e3]; exact h.srt a b hab hb e1
/-- The element has come to its place. -/
theorem InsI.stop {n m i j : Nat} {A : Nat → Nat → Nat} (h : InsI n m i j A) (hl : ∀ k, j = k + 1 → LexLt n (A k) (A j)) : ∀ a b, a < b → b < i + 1 → LexLt n (A a) (A b) := fun a b hab hb => by
  by_cases e : b = j
  · subst e
    obtain ⟨k, rfl⟩ : ∃ k, b = k + 1 := ⟨b - 1, by omega⟩
    have h1 := hl k rfl
    by_cases e2 : a = k
    · subst e2; exact h1
    · exact (h.srt a k (by omega) (by omega) (by omega)).trans h1
  · exact h.srt a b hab (by omega) e
/-- All elements of the group, in order. -/
structure GrpL (n m : Nat) (S : List (Nat → Nat)) (A : Nat → Nat → Nat) : Prop where
  all : ∀ f, Gn S f ↔ ∃ i, i < m ∧ A i = f
  srt : ∀ a b, a < b → b < m → LexLt n (A a) (A b)
/-- The first element with a property is the least one. -/
theorem GrpL.least {n m : Nat} {S : List (Nat → Nat)} {A : Nat → Nat → Nat} (h : GrpL n m S A) {b x i : Nat} (hi : i < m) (h1 : FixP b (A i)) (h2 : A i b = x) (h3 : ∀ j, j < i → ¬ (FixP b (A j) ∧ A j b = x)) : LeastP n S b x (A i) :=
  ⟨(h.all _).2 ⟨i, hi, rfl⟩, h1, h2, fun g hg hF hgb => by
    obtain ⟨j, hj, rfl⟩ := (h.all g).1 hg
    rcases Nat.lt_trichotomy i j with e | e | e
    · exact (h.srt i j e hj).le
    · subst e; exact .inl fun _ _ => rfl
    · exact absurd ⟨hF, hgb⟩ (h3 j e)⟩
end Go.Proofs.YtgfdhclpffakfaaGreat
