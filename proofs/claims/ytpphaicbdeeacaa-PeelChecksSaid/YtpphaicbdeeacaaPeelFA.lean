/- Plain: walks, searches in breadth, and what peel.around finds. -/
import Derived.Test.YtpphaicbdeeacaaPeelK
namespace Go.Proofs.Ytpphaicbdeeacaa
set_option linter.unusedVariables false
set_option linter.unusedSimpArgs false
open Go.RowKit

/-- A walk of n steps. -/
inductive Wk (A : Nat → Nat → Prop) : Nat → Nat → Nat → Prop
  | nil (x : Nat) : Wk A 0 x x
  | cons (n x y z : Nat) : A x y → Wk A n y z → Wk A (n + 1) x z
section
variable {A B : Nat → Nat → Prop}
theorem Wk.snoc {n x y z : Nat} (h : Wk A n x y) (k : A y z) : Wk A (n + 1) x z := by
  induction h with
  | nil x => exact .cons _ _ _ _ k (.nil _)
  | cons n x y z a _ ih => exact .cons _ _ _ _ a (ih k)
theorem Wk.app {n m x y z : Nat} (h : Wk A n x y) (k : Wk A m y z) : Wk A (n + m) x z := by
  induction h with
  | nil x => rwa [Nat.zero_add]
  | cons n x y z a _ ih =>
    rw [show n + 1 + m = n + m + 1 by omega]
    exact .cons _ _ _ _ a (ih k)
theorem Wk.rev (hs : ∀ x y, A x y → A y x) {n x y : Nat} (h : Wk A n x y) : Wk A n y x := by
  induction h with
  | nil x => exact .nil x
  | cons n x y z a _ ih => exact ih.snoc (hs _ _ a)
theorem Wk.mono (hs : ∀ x y, A x y → B x y) {n x y : Nat} (h : Wk A n x y) : Wk B n x y := by
  induction h with
  | nil x => exact .nil x
  | cons n x y z a _ ih => exact .cons _ _ _ _ (hs _ _ a) ih
/-- A walk without a step back, as a sequence. -/
structure Nb (A : Nat → Nat → Prop) (n x y : Nat) (c : Nat → Nat) : Prop where
  c0 : c 0 = x
  cn : c n = y
  st : ∀ k, k < n → A (c k) (c (k + 1))
  nb : ∀ k, k + 1 < n → c k ≠ c (k + 2)
theorem Wk.nb {n x y : Nat} (h : Wk A n x y) : ∃ m c, m ≤ n ∧ Nb A m x y c := by
  induction h with
  | nil x => exact ⟨0, fun _ => x, Nat.le_refl _, ⟨rfl, rfl, fun k hk => absurd hk (by omega), fun k hk => absurd hk (by omega)⟩⟩
  | cons n x y z a _ ih =>
    obtain ⟨m, c, hm, hc⟩ := ih
    by_cases h : 1 ≤ m ∧ c 1 = x
    · refine ⟨m - 1, fun k => c (k + 1), by omega, ⟨h.2, ?_, fun k hk => hc.st (k + 1) (by omega), fun k hk => hc.nb (k + 1) (by omega)⟩⟩
      show c (m - 1 + 1) = z
      rw [show m - 1 + 1 = m by omega]; exact hc.cn
    · refine ⟨m + 1, fun k => if k = 0 then x else c (k - 1), by omega, ⟨by simp, by simp [hc.cn], fun k hk => ?_, fun k hk => ?_⟩⟩
      · by_cases e : k = 0
        · subst e; simp only [if_true]
          show A x (if 0 + 1 = 0 then x else c (0 + 1 - 1))
          rw [if_neg (by omega), Nat.zero_add, Nat.sub_self, hc.c0]; exact a
        · show A (if k = 0 then x else c (k - 1)) (if k + 1 = 0 then x else c (k + 1 - 1))
          rw [if_neg e, if_neg (by omega)]
          have := hc.st (k - 1) (by omega)
          rwa [show k - 1 + 1 = k + 1 - 1 by omega] at this
      · by_cases e : k = 0
        · subst e
          show (if 0 = 0 then x else c (0 - 1)) ≠ (if 0 + 2 = 0 then x else c (0 + 2 - 1))
          rw [if_pos rfl, if_neg (by omega)]
          intro e; exact h ⟨by omega, e.symm⟩
        · show (if k = 0 then x else c (k - 1)) ≠ (if k + 2 = 0 then x else c (k + 2 - 1))
          rw [if_neg e, if_neg (by omega)]
          have := hc.nb (k - 1) (by omega)
          rwa [show k - 1 + 2 = k + 2 - 1 by omega] at this
theorem Nb.wk {n x y : Nat} {c : Nat → Nat} (h : Nb A n x y c) : Wk A n x y := by
  have : ∀ k, k ≤ n → Wk A k x (c k) := fun k => by
    induction k with
    | zero => intro _; rw [h.c0]; exact .nil x
    | succ k ih => exact fun hk => (ih (by omega)).snoc (h.st k (by omega))
  have := this n (Nat.le_refl _)
  rwa [h.cn] at this

/-- The state of a search in breadth from src: the pairs of pr have been looked at, D is the distance of the vertex at work. -/
structure BI (A : Nat → Nat → Prop) (src : Nat) (far : Nat → Int) (q : List Int) (pr : Nat → Nat → Prop) (D : Int) : Prop where
  s0 : far src = 0
  mem : ∀ x : Nat, 0 ≤ far x ↔ (x : Int) ∈ q
  nn : ∀ x ∈ q, 0 ≤ x
  nd : q.Nodup
  up : ∀ x : Nat, 0 ≤ far x → x ≠ src → ∃ p : Nat, A p x ∧ far x = far p + 1 ∧ 0 ≤ far p
  dn : ∀ x y, pr x y → 0 ≤ far x ∧ 0 ≤ far y ∧ far y ≤ far x + 1
  top : ∀ x, far x ≤ D + 1
  srt : q.Pairwise fun a b => far a.toNat ≤ far b.toNat
variable {src : Nat} {far : Nat → Int} {q : List Int} {pr : Nat → Nat → Prop} {D : Int}
theorem BI.init : BI A src (upd (fun _ => -1) src 0) [(src : Int)] (fun _ _ => False) 0 := by
  refine ⟨upd_same _ _ _, fun x => ?_, fun x hx => ?_, (by simp), fun x hx hs => ?_, fun _ _ h => h.elim, fun x => ?_, List.pairwise_singleton _ _⟩
  · by_cases e : x = src
    · subst e; rw [upd_same]; simp
    · rw [upd_ne _ _ e]; simp; omega
  · simp at hx; omega
  · rw [upd_ne _ _ hs] at hx; omega
  · by_cases e : x = src
    · subst e; rw [upd_same]; omega
    · rw [upd_ne _ _ e]; omega
theorem BI.next {D' : Int} (h : BI A src far q pr D) (hD : D ≤ D') : BI A src far q pr D' :=
  ⟨h.s0, h.mem, h.nn, h.nd, h.up, h.dn, fun x => by have := h.top x; omega, h.srt⟩
theorem BI.cong {pr' : Nat → Nat → Prop} (h : BI A src far q pr D) (hp : ∀ x y, pr' x y → pr x y) : BI A src far q pr' D :=
  ⟨h.s0, h.mem, h.nn, h.nd, h.up, fun x y k => h.dn x y (hp x y k), h.top, h.srt⟩
theorem BI.new (h : BI A src far q pr D) {v w : Nat} (hv : far v = D) (h0 : 0 ≤ D) (ha : A v w) (hw : far w < 0) :
    BI A src (upd far w (far v + 1)) (q ++ [(w : Int)]) (fun x y => pr x y ∨ (x = v ∧ y = w)) D := by
  have hvw : v ≠ w := fun e => by rw [e] at hv; omega
  have hnw : (w : Int) ∉ q := fun e => by have := (h.mem w).2 e; omega
  have key : ∀ x, 0 ≤ far x → upd far w (far v + 1) x = far x := fun x hx => upd_ne _ _ (fun e => by rw [e] at hx; omega)
  refine ⟨by rw [key _ (by rw [h.s0]; omega)]; exact h.s0, fun x => ?_, fun x hx => ?_, ?_, fun x hx hs => ?_, fun x y hxy => ?_, fun x => ?_, ?_⟩
  · rw [List.mem_append]
    by_cases e : x = w
    · subst e; rw [upd_same]; simp; omega
    · rw [upd_ne _ _ e, h.mem x]
      constructor
      · exact .inl
      · rintro (h1 | h1)
        · exact h1
        · simp at h1; omega
  · rcases List.mem_append.1 hx with hx | hx
    · exact h.nn x hx
    · simp at hx; omega
  · rw [List.nodup_append]
    refine ⟨h.nd, (by simp), fun a ha b hb => ?_⟩
    simp at hb; subst hb
    exact fun e => hnw (e ▸ ha)
  · by_cases e : x = w
    · subst e
      exact ⟨v, ha, by rw [upd_same, upd_ne _ _ hvw], by rw [upd_ne _ _ hvw]; omega⟩
    · rw [upd_ne _ _ e] at hx ⊢
      obtain ⟨p, p1, p2, p3⟩ := h.up x hx hs
      exact ⟨p, p1, by rw [key p p3]; exact p2, by rw [key p p3]; exact p3⟩
  · rcases hxy with hxy | ⟨rfl, rfl⟩
    · obtain ⟨a, b, c⟩ := h.dn x y hxy
      rw [key x a, key y b]; exact ⟨a, b, c⟩
    · rw [upd_same, upd_ne _ _ hvw]; omega
  · by_cases e : x = w
    · subst e; rw [upd_same]; omega
    · rw [upd_ne _ _ e]; exact h.top x
  · rw [List.pairwise_append]
    have kq : ∀ a ∈ q, 0 ≤ far a.toNat := fun a ha => (h.mem _).2 (by have := h.nn a ha; rwa [show ((a.toNat : Nat) : Int) = a by omega])
    refine ⟨h.srt.imp_of_mem fun {a b} ha hb hab => ?_, List.pairwise_singleton _ _, fun a ha b hb => ?_⟩
    · rw [key _ (kq a ha), key _ (kq b hb)]; exact hab
    · simp at hb; subst hb
      rw [key _ (kq a ha), Int.toNat_natCast, upd_same]
      have := h.top a.toNat; omega
theorem BI.old (h : BI A src far q pr D) {v w : Nat} (hv : far v = D) (h0 : 0 ≤ D) (hw : 0 ≤ far w) : BI A src far q (fun x y => pr x y ∨ (x = v ∧ y = w)) D :=
  ⟨h.s0, h.mem, h.nn, h.nd, h.up, fun x y hxy => by
    rcases hxy with hxy | ⟨rfl, rfl⟩
    · exact h.dn x y hxy
    · have := h.top y; omega, h.top, h.srt⟩
/-- Behind the search: distances are at most the length of any walk .. -/
theorem BI.le (h : BI A src far q pr D) (hf : ∀ x y, 0 ≤ far x → A x y → pr x y) {n x y : Nat} (hw : Wk A n x y) : 0 ≤ far x → 0 ≤ far y ∧ far y ≤ far x + n := by
  induction hw with
  | nil x => exact fun h => ⟨h, by omega⟩
  | cons n x y z a _ ih =>
    intro hx
    obtain ⟨_, h2, h3⟩ := h.dn x y (hf x y hx a)
    have := ih h2
    omega
/-- .. and there is one of that length. -/
theorem BI.walk (h : BI A src far q pr D) : ∀ (n : Nat) (x : Nat), far x = n → Wk A n src x
  | 0, x, hx => by
    by_cases e : x = src
    · subst e; exact .nil _
    · obtain ⟨p, _, h2, h3⟩ := h.up x (by omega) e
      omega
  | n + 1, x, hx => by
    have e : x ≠ src := fun e => by rw [e, h.s0] at hx; omega
    obtain ⟨p, h1, h2, h3⟩ := h.up x (by omega) e
    exact (h.walk n p (by omega)).snoc h1
end

/-- A graph by its lists of neighbors. -/
structure Gr (L : Nat → List Int) : Prop where
  nn : ∀ i x, x ∈ L i → 0 ≤ x
  sym : ∀ i j : Nat, (j : Int) ∈ L i → (i : Int) ∈ L j
  nd : ∀ i, (L i).Nodup
  irr : ∀ i : Nat, (i : Int) ∉ L i
/-- The edges but the one between a and b. -/
def Av (L : Nat → List Int) (a b x y : Nat) : Prop := (y : Int) ∈ L x ∧ ¬ (x = a ∧ y = b) ∧ ¬ (x = b ∧ y = a)
theorem Av.symm {L : Nat → List Int} (hg : Gr L) {a b : Nat} : ∀ x y, Av L a b x y → Av L a b y x := fun x y h => ⟨hg.sym _ _ h.1, fun e => h.2.2 ⟨e.2, e.1⟩, fun e => h.2.1 ⟨e.2, e.1⟩⟩
theorem Av.turn {L : Nat → List Int} {a b : Nat} : ∀ x y, Av L a b x y → Av L b a x y := fun x y h => ⟨h.1, h.2.2, h.2.1⟩
/-- A walk beside an edge: a cycle of n + 1 steps. -/
def Byp (L : Nat → List Int) (n a b : Nat) : Prop := (b : Int) ∈ L a ∧ Wk (Av L a b) n a b
theorem Byp.symm {L : Nat → List Int} (hg : Gr L) {n a b : Nat} (h : Byp L n a b) : Byp L n b a := ⟨hg.sym _ _ h.1, (h.2.rev (Av.symm hg)).mono Av.turn⟩

section
variable {L : Nat → List Int} {src : Nat}
/-- What peel.around keeps: each vertex's parent, and the best length. -/
structure BJ (L : Nat → List Int) (src : Nat) (s : BSt) (pr : Nat → Nat → Prop) : Prop where
  par0 : s.par src = -1
  par : ∀ x : Nat, 0 ≤ s.far x → x ≠ src → ∃ p : Nat, s.par x = p ∧ 0 ≤ s.far p ∧ s.far x = s.far p + 1 ∧ (x : Int) ∈ L p ∧ pr p x
  tri : ∀ x y : Nat, pr x y → s.par x = y ∨ s.par y = x ∨ (0 < s.best ∧ s.best ≤ s.far x + s.far y + 1)
  b0 : 0 ≤ s.best
  byp : 0 < s.best → ∃ n a b : Nat, s.best = n + 1 ∧ Byp L n a b
def Lnk (L : Nat → List Int) (x y : Nat) : Prop := (y : Int) ∈ L x
structure BB (L : Nat → List Int) (src : Nat) (s : BSt) (pr : Nat → Nat → Prop) (D : Int) : Prop where
  i : BI (Lnk L) src s.far s.q pr D
  j : BJ L src s pr
theorem BJ.tree {s : BSt} {pr : Nat → Nat → Prop} (hz : s.far src = 0) (h : BJ L src s pr) {v w : Nat} (h1 : s.par v ≠ w) (h2 : s.par w ≠ v) : ∀ (n x : Nat), s.far x = n → Wk (Av L v w) n src x
  | 0, x, hx => by
    by_cases e : x = src
    · subst e; exact .nil _
    · obtain ⟨p, _, h2, h3, _⟩ := h.par x (by omega) e
      omega
  | n + 1, x, hx => by
    have e : x ≠ src := fun e => by rw [e, hz] at hx; omega
    obtain ⟨p, p1, p2, p3, p4, _⟩ := h.par x (by omega) e
    refine (BJ.tree hz h h1 h2 n p (by omega)).snoc ⟨p4, ?_, ?_⟩
    · rintro ⟨rfl, rfl⟩; exact h2 p1
    · rintro ⟨rfl, rfl⟩; exact h1 p1
theorem BB.step (hg : Gr L) {s : BSt} {pr : Nat → Nat → Prop} {D : Int} (h : BB L src s pr D) {v w : Nat} (hv : s.far v = D) (h0 : 0 ≤ D) (hw : (w : Int) ∈ L v) (hn : ¬ pr v w) :
    BB L src (bstep v s w) (fun x y => pr x y ∨ (x = v ∧ y = w)) D := by
  unfold bstep
  rw [Int.toNat_natCast]
  by_cases hf : s.far w < 0
  · rw [if_pos hf]
    have hvw : v ≠ w := fun e => by rw [e] at hv; omega
    have key : ∀ x, 0 ≤ s.far x → x ≠ w := fun x hx e => by rw [e] at hx; omega
    have hs0 := h.i.s0
    refine ⟨h.i.new hv h0 hw hf, ?_, fun x hx hs => ?_, fun x y hxy => ?_, h.j.b0, h.j.byp⟩
    · show upd s.par w v src = -1
      rw [upd_ne _ _ (key src (by omega))]; exact h.j.par0
    · by_cases e : x = w
      · subst e
        refine ⟨v, upd_same _ _ _, ?_, ?_, hw, .inr ⟨rfl, rfl⟩⟩
        · show 0 ≤ upd s.far x (s.far v + 1) v
          rw [upd_ne _ _ hvw]; omega
        · show upd s.far x (s.far v + 1) x = upd s.far x (s.far v + 1) v + 1
          rw [upd_same, upd_ne _ _ hvw]
      · have hx' : 0 ≤ s.far x := by
          have : 0 ≤ upd s.far w (s.far v + 1) x := hx
          rwa [upd_ne _ _ e] at this
        obtain ⟨p, p1, p2, p3, p4, p5⟩ := h.j.par x hx' hs
        refine ⟨p, ?_, ?_, ?_, p4, .inl p5⟩
        · show upd s.par w v x = p
          rw [upd_ne _ _ e]; exact p1
        · show 0 ≤ upd s.far w (s.far v + 1) p
          rw [upd_ne _ _ (key p p2)]; exact p2
        · show upd s.far w (s.far v + 1) x = upd s.far w (s.far v + 1) p + 1
          rw [upd_ne _ _ e, upd_ne _ _ (key p p2)]; exact p3
    · rcases hxy with hxy | ⟨rfl, rfl⟩
      · obtain ⟨a, b, _⟩ := h.i.dn x y hxy
        show upd s.par w v x = y ∨ upd s.par w v y = x ∨ (0 < s.best ∧ s.best ≤ upd s.far w (s.far v + 1) x + upd s.far w (s.far v + 1) y + 1)
        rw [upd_ne _ _ (key x a), upd_ne _ _ (key y b), upd_ne _ _ (key x a), upd_ne _ _ (key y b)]
        exact h.j.tri x y hxy
      · exact .inr (.inl (upd_same _ _ _))
  · rw [if_neg hf]
    have hf' : 0 ≤ s.far w := by omega
    have hio := h.i.old hv h0 hf'
    by_cases hb : (w : Int) ≠ s.par v ∧ (s.best = 0 ∨ s.far v + s.far w + 1 < s.best)
    · rw [if_pos hb]
      have hb0 := h.j.b0
      refine ⟨hio, h.j.par0, fun x hx hs => ?_, fun x y hxy => ?_, ?_, fun _ => ?_⟩
      · obtain ⟨p, p1, p2, p3, p4, p5⟩ := h.j.par x hx hs
        exact ⟨p, p1, p2, p3, p4, .inl p5⟩
      · show s.par x = y ∨ s.par y = x ∨ (0 < s.far v + s.far w + 1 ∧ s.far v + s.far w + 1 ≤ s.far x + s.far y + 1)
        rcases hxy with hxy | ⟨rfl, rfl⟩
        · rcases h.j.tri x y hxy with k | k | ⟨k1, k2⟩
          · exact .inl k
          · exact .inr (.inl k)
          · exact .inr (.inr ⟨by omega, by omega⟩)
        · exact .inr (.inr ⟨by omega, by omega⟩)
      · show 0 ≤ s.far v + s.far w + 1
        omega
      · have hpw : s.par w ≠ v := fun e => by
          by_cases es : w = src
          · rw [es, h.j.par0] at e; omega
          · obtain ⟨p, p1, _, _, _, p5⟩ := h.j.par w hf' es
            have : p = v := by omega
            subst this; exact hn p5
        have hpv : s.par v ≠ w := fun e => hb.1 e.symm
        obtain ⟨a, ha⟩ : ∃ a : Nat, s.far v = a := ⟨(s.far v).toNat, by omega⟩
        obtain ⟨c, hc⟩ : ∃ c : Nat, s.far w = c := ⟨(s.far w).toNat, by omega⟩
        have t1 := h.j.tree h.i.s0 hpv hpw a v ha
        have t2 := h.j.tree h.i.s0 hpv hpw c w hc
        refine ⟨a + c, v, w, ?_, hw, (t1.rev (Av.symm hg)).app t2⟩
        show s.far v + s.far w + 1 = _
        rw [ha, hc]; push_cast; rfl
    · rw [if_neg hb]
      have hb0 := h.j.b0
      refine ⟨hio, h.j.par0, fun x hx hs => ?_, fun x y hxy => ?_, hb0, h.j.byp⟩
      · obtain ⟨p, p1, p2, p3, p4, p5⟩ := h.j.par x hx hs
        exact ⟨p, p1, p2, p3, p4, .inl p5⟩
      · rcases hxy with hxy | ⟨rfl, rfl⟩
        · exact h.j.tri x y hxy
        · by_cases e : (y : Int) = s.par x
          · exact .inl e.symm
          · exact .inr (.inr ⟨by omega, by omega⟩)
theorem BB.cong {s : BSt} {pr pr' : Nat → Nat → Prop} {D : Int} (h : BB L src s pr D) (hp : ∀ x y, pr' x y ↔ pr x y) : BB L src s pr' D := by
  have : pr' = pr := by funext x y; exact propext (hp x y)
  rw [this]; exact h
/-- The state behind a vertex's list. -/
theorem BB.list (hg : Gr L) {v : Nat} {D : Int} (h0 : 0 ≤ D) : ∀ (suf pre : List Int) (s : BSt) (pr : Nat → Nat → Prop), (∀ x, x ∈ L v ↔ x ∈ pre ++ suf) → (pre ++ suf).Nodup → (∀ y, ¬ pr v y) → s.far v = D →
    BB L src s (fun x y => pr x y ∨ (x = v ∧ (y : Int) ∈ pre)) D → BB L src (suf.foldl (bstep v) s) (fun x y => pr x y ∨ (x = v ∧ (y : Int) ∈ L v)) D ∧ (suf.foldl (bstep v) s).far v = D ∧ ∃ t, (suf.foldl (bstep v) s).q = s.q ++ t
  | [], pre, s, pr, hl, hd, hn, hv, h => ⟨h.cong fun x y => by rw [hl, List.append_nil], hv, [], by simp⟩
  | w :: suf, pre, s, pr, hl, hd, hn, hv, h => by
    have hw0 : 0 ≤ w := hg.nn v w ((hl w).2 (by simp))
    obtain ⟨W, rfl⟩ : ∃ W : Nat, w = W := ⟨w.toNat, by omega⟩
    have hnp : (W : Int) ∉ pre := fun hp => by
      have := (List.nodup_append.1 hd).2.2 _ hp _ (List.mem_cons_self ..)
      exact this rfl
    have h1 := h.step (w := W) hg hv h0 ((hl (W : Int)).2 (by simp)) (fun e => by
      rcases e with e | ⟨_, e⟩
      · exact hn _ e
      · exact hnp e)
    have hv' : (bstep v s W).far v = D := by
      unfold bstep
      rw [Int.toNat_natCast]
      split
      · rename_i hf
        show upd s.far W _ v = D
        rw [upd_ne _ _ (fun e => by rw [← e] at hf; omega)]; exact hv
      · split <;> exact hv
    obtain ⟨k1, k2, t, k3⟩ := BB.list hg h0 suf (pre ++ [(W : Int)]) (bstep v s W) pr (fun x => by rw [hl]; simp) (by simpa using hd) hn hv' (h1.cong fun x y => by
      rw [List.mem_append]
      constructor
      · rintro (a | ⟨rfl, a | a⟩)
        · exact .inl (.inl a)
        · exact .inl (.inr ⟨rfl, a⟩)
        · simp at a; exact .inr ⟨rfl, by omega⟩
      · rintro ((a | ⟨rfl, a⟩) | ⟨rfl, rfl⟩)
        · exact .inl a
        · exact .inr ⟨rfl, .inl a⟩
        · exact .inr ⟨rfl, .inr (by simp)⟩)
    refine ⟨k1, k2, ?_⟩
    rw [List.foldl_cons]
    have hq : ∃ t, (bstep v s (W : Int)).q = s.q ++ t := by
      unfold bstep
      split
      · exact ⟨_, rfl⟩
      · split <;> exact ⟨[], by simp⟩
    obtain ⟨t0, hq⟩ := hq
    exact ⟨t0 ++ t, by rw [k3, hq, List.append_assoc]⟩
/-- The pairs that are done at place k of the queue. -/
def Prk (L : Nat → List Int) (q : List Int) (k x y : Nat) : Prop := (∃ j, j < k ∧ q[j]? = some (x : Int)) ∧ (y : Int) ∈ L x
theorem Bfs.sound (hg : Gr L) {k : Nat} {s : BSt} {b : Int} (hb : Bfs L k s b) : ∀ D, BB L src s (Prk L s.q k) D → (∀ (j : Nat) (x : Int), k ≤ j → s.q[j]? = some x → D ≤ s.far x.toNat) →
    ∃ s' D', s'.best = b ∧ BB L src s' (fun x y => 0 ≤ s'.far x ∧ (y : Int) ∈ L x) D' := by
  induction hb with
  | done k s hk =>
    intro D h _
    refine ⟨s, D, rfl, h.cong fun x y => ?_⟩
    unfold Prk
    rw [h.i.mem x]
    constructor
    · rintro ⟨h1, h2⟩
      obtain ⟨j, hj, e⟩ := List.getElem_of_mem h1
      exact ⟨⟨j, by omega, by rw [List.getElem?_eq_getElem hj, e]⟩, h2⟩
    · rintro ⟨⟨j, _, e⟩, h2⟩
      exact ⟨List.mem_of_getElem? e, h2⟩
  | step k s v b hv _ ih =>
    intro D h hD
    have hvm : (v : Int) ∈ s.q := List.mem_of_getElem? hv
    have hv0 := (h.i.mem v).2 hvm
    have hDv := hD k v (Nat.le_refl _) hv
    rw [Int.toNat_natCast] at hDv
    have hnv : ∀ y, ¬ Prk L s.q k v y := fun y hy => by
      obtain ⟨⟨j, hj, e⟩, _⟩ := hy
      have hk := (List.getElem?_eq_some_iff.1 hv)
      obtain ⟨hkl, ek⟩ := hk
      obtain ⟨hjl, ej⟩ := List.getElem?_eq_some_iff.1 e
      have := (List.pairwise_iff_getElem.1 h.i.nd) j k hjl hkl hj
      exact this (by rw [ej, ek])
    have h1 : BB L src s (fun x y => Prk L s.q k x y ∨ (x = v ∧ (y : Int) ∈ ([] : List Int))) (s.far v) := (BB.mk (h.i.next hDv) h.j).cong fun x y => by simp
    obtain ⟨k1, k2, t, k3⟩ := BB.list hg hv0 (L v) [] s (Prk L s.q k) (fun x => by simp) (by simpa using hg.nd v) hnv rfl h1
    change BB L src (bvert L s v) _ _ at k1
    change (bvert L s v).far v = _ at k2
    change (bvert L s v).q = _ at k3
    have hkl : k < s.q.length := (List.getElem?_eq_some_iff.1 hv).1
    refine ih (s.far v) (k1.cong fun x y => ?_) fun j x hj hx => ?_
    · unfold Prk
      rw [k3]
      constructor
      · rintro ⟨⟨j, hj, e⟩, h2⟩
        rw [List.getElem?_append_left (by omega)] at e
        by_cases ej : j = k
        · subst ej; rw [hv] at e; injection e with e
          have : x = v := by omega
          subst this; exact .inr ⟨rfl, h2⟩
        · exact .inl ⟨⟨j, by omega, e⟩, h2⟩
      · rintro (⟨⟨j, hj, e⟩, h2⟩ | ⟨rfl, h2⟩)
        · exact ⟨⟨j, by omega, by rw [List.getElem?_append_left (by omega)]; exact e⟩, h2⟩
        · exact ⟨⟨k, by omega, by rw [List.getElem?_append_left hkl]; exact hv⟩, h2⟩
    · obtain ⟨hjl, ej⟩ := List.getElem?_eq_some_iff.1 hx
      have hvk : (bvert L s v).q[k]? = some (v : Int) := by rw [k3, List.getElem?_append_left hkl]; exact hv
      obtain ⟨hkl', ek⟩ := List.getElem?_eq_some_iff.1 hvk
      have := (List.pairwise_iff_getElem.1 k1.i.srt) k j hkl' hjl (by omega)
      rw [ek, ej, Int.toNat_natCast, k2] at this
      exact this
/-- What the search from src says: its length is that of a cycle, and at most that of each closed walk through src without a step back. -/
theorem around_spec (hg : Gr L) {b : Int} (hb : Bfs L 0 (bInit src) b) : 0 ≤ b ∧ (0 < b → ∃ n a c : Nat, b = n + 1 ∧ Byp L n a c) ∧ ∀ (g : Nat) (c : Nat → Nat), 1 ≤ g → Nb (Lnk L) g src src c → 0 < b ∧ b ≤ g := by
  have h0 : BB L src (bInit src) (Prk L (bInit src).q 0) 0 := by
    refine ⟨BI.init.cong fun x y hx => ?_, (by show upd (fun _ => (0 : Int)) src (-1) src = -1; exact upd_same _ _ _), fun x hx hs => ?_, fun x y hx => ?_, by simp [bInit], fun h => ?_⟩
    · obtain ⟨⟨j, hj, _⟩, _⟩ := hx; omega
    · have : 0 ≤ upd (fun _ => (-1 : Int)) src 0 x := hx
      rw [upd_ne _ _ hs] at this; omega
    · obtain ⟨⟨j, hj, _⟩, _⟩ := hx; omega
    · simp [bInit] at h
  obtain ⟨s, D, rfl, h⟩ := hb.sound hg 0 h0 fun j x _ hx => by
    have : x = src := by
      have := List.mem_of_getElem? hx
      simpa [bInit] using this
    subst this
    show 0 ≤ upd (fun _ => (-1 : Int)) src 0 ((src : Int).toNat)
    rw [Int.toNat_natCast, upd_same]; omega
  refine ⟨h.j.b0, h.j.byp, fun g c hg1 hc => ?_⟩
  have hs0 := h.i.s0
  have hfull : ∀ x y, 0 ≤ s.far x → Lnk L x y → (fun x y => 0 ≤ s.far x ∧ (y : Int) ∈ L x) x y := fun x y hx hy => ⟨hx, hy⟩
  -- distances along the walk, from both ends
  have fw : ∀ k, k ≤ g → 0 ≤ s.far (c k) ∧ s.far (c k) ≤ k := fun k => by
    induction k with
    | zero => intro _; rw [hc.c0, hs0]; omega
    | succ k ih =>
      intro hk
      obtain ⟨a, b⟩ := ih (by omega)
      obtain ⟨_, d, e⟩ := h.i.dn _ _ (hfull _ _ a (hc.st k (by omega)))
      omega
  have bw : ∀ k, k ≤ g → s.far (c (g - k)) ≤ k := fun k => by
    induction k with
    | zero => intro _; rw [Nat.sub_zero, hc.cn, hs0]; omega
    | succ k ih =>
      intro hk
      have a := ih (by omega)
      have st := hc.st (g - (k + 1)) (by omega)
      rw [show g - (k + 1) + 1 = g - k by omega] at st
      obtain ⟨_, d, e⟩ := h.i.dn _ _ (hfull _ _ (fw (g - k) (by omega)).1 (hg.sym _ _ st))
      omega
  have hmax : ∃ z, z ≤ g ∧ ∀ k, k ≤ g → s.far (c k) ≤ s.far (c z) := by
    have : ∀ m, m ≤ g → ∃ z, z ≤ m ∧ ∀ k, k ≤ m → s.far (c k) ≤ s.far (c z) := fun m => by
      induction m with
      | zero => exact fun _ => ⟨0, Nat.le_refl _, fun k hk => by rw [show k = 0 by omega]; omega⟩
      | succ m ih =>
        intro hm
        obtain ⟨z, hz, h1⟩ := ih (by omega)
        by_cases e : s.far (c z) ≤ s.far (c (m + 1))
        · refine ⟨m + 1, Nat.le_refl _, fun k hk => ?_⟩
          by_cases ek : k = m + 1
          · rw [ek]; omega
          · have := h1 k (by omega); omega
        · refine ⟨z, by omega, fun k hk => ?_⟩
          by_cases ek : k = m + 1
          · rw [ek]; omega
          · exact h1 k (by omega)
    exact this g (Nat.le_refl _)
  obtain ⟨z, hz, hzm⟩ := hmax
  have hpos : 1 ≤ s.far (c z) := by
    have h1 := hzm 1 hg1
    have hl := hc.st 0 (by omega)
    rw [hc.c0, Nat.zero_add] at hl
    have hne : c 1 ≠ src := fun e => by rw [e] at hl; exact hg.irr _ hl
    obtain ⟨p, _, p2, p3, _⟩ := h.j.par (c 1) (fw 1 hg1).1 hne
    omega
  have hz1 : z ≠ 0 := fun e => by rw [e, hc.c0, hs0] at hpos; omega
  have hz2 : z ≠ g := fun e => by rw [e, hc.cn, hs0] at hpos; omega
  have nopar : ∀ y, s.far y ≤ s.far (c z) → 0 ≤ s.far y → s.par y ≠ c z := fun y hy hy0 e => by
    by_cases es : y = src
    · rw [es, h.j.par0] at e; omega
    · obtain ⟨p, p1, p2, p3, _⟩ := h.j.par y hy0 es
      have : p = c z := by omega
      subst this; omega
  have la : (c (z - 1) : Int) ∈ L (c z) := by
    have := hc.st (z - 1) (by omega)
    rw [show z - 1 + 1 = z by omega] at this
    exact hg.sym _ _ this
  have lb : (c (z + 1) : Int) ∈ L (c z) := hc.st z (by omega)
  have hne : c (z - 1) ≠ c (z + 1) := by
    have := hc.nb (z - 1) (by omega)
    rwa [show z - 1 + 2 = z + 1 by omega] at this
  have hz0 := (fw z hz).1
  by_cases e : s.par (c z) = c (z - 1)
  · have e2 : s.par (c z) ≠ c (z + 1) := fun e2 => hne (by omega)
    rcases h.j.tri (c z) (c (z + 1)) ⟨hz0, lb⟩ with k | k | ⟨k1, k2⟩
    · exact absurd k e2
    · exact absurd k (nopar _ (hzm _ (by omega)) (fw _ (by omega)).1)
    · have h1 := (fw z hz).2
      have h2 := bw (g - (z + 1)) (by omega)
      rw [show g - (g - (z + 1)) = z + 1 by omega] at h2
      omega
  · rcases h.j.tri (c z) (c (z - 1)) ⟨hz0, la⟩ with k | k | ⟨k1, k2⟩
    · exact absurd k e
    · exact absurd k (nopar _ (hzm _ (by omega)) (fw _ (by omega)).1)
    · have h1 := (fw (z - 1) (by omega)).2
      have h2 := bw (g - z) (by omega)
      rw [show g - (g - z) = z by omega] at h2
      omega
end
end Go.Proofs.Ytpphaicbdeeacaa
