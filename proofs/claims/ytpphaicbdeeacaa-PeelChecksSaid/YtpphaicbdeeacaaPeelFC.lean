/- Plain: joining the ends of edges; a graph is without cycles exactly if each edge joins two parts. -/
import Derived.Test.YtpphaicbdeeacaaPeelFB
namespace Go.Proofs.Ytpphaicbdeeacaa
set_option linter.unusedVariables false
set_option linter.unusedSimpArgs false
open Go.RowKit

/-- Connected. -/
def Cn (R : Nat → Nat → Prop) (x y : Nat) : Prop := ∃ n, Wk R n x y
section
variable {R S : Nat → Nat → Prop}
theorem Cn.refl (x : Nat) : Cn R x x := ⟨0, .nil x⟩
theorem Cn.trans {x y z : Nat} (h : Cn R x y) (k : Cn R y z) : Cn R x z := by
  obtain ⟨n, h⟩ := h
  obtain ⟨m, k⟩ := k
  exact ⟨_, h.app k⟩
theorem Cn.symm (hs : ∀ x y, R x y → R y x) {x y : Nat} (h : Cn R x y) : Cn R y x := by
  obtain ⟨n, h⟩ := h
  exact ⟨n, h.rev hs⟩
theorem Cn.one {x y : Nat} (h : R x y) : Cn R x y := ⟨1, .cons _ _ _ _ h (.nil _)⟩
theorem Cn.mono (hs : ∀ x y, R x y → S x y) {x y : Nat} (h : Cn R x y) : Cn S x y := by
  obtain ⟨n, h⟩ := h
  exact ⟨n, h.mono hs⟩
/-- All edges but one. -/
def Rm (R : Nat → Nat → Prop) (a b x y : Nat) : Prop := R x y ∧ ¬ (x = a ∧ y = b) ∧ ¬ (x = b ∧ y = a)
theorem Rm.symm (hs : ∀ x y, R x y → R y x) {a b : Nat} : ∀ x y, Rm R a b x y → Rm R a b y x := fun x y h => ⟨hs _ _ h.1, fun e => h.2.2 ⟨e.2, e.1⟩, fun e => h.2.1 ⟨e.2, e.1⟩⟩
/-- No edge has a walk beside it. -/
def Acy (R : Nat → Nat → Prop) : Prop := ∀ a b, R a b → ¬ Cn (Rm R a b) a b
/-- One edge more. -/
def Pl (R : Nat → Nat → Prop) (u v x y : Nat) : Prop := R x y ∨ (x = u ∧ y = v) ∨ (x = v ∧ y = u)
theorem Acy.pl (hs : ∀ x y, R x y → R y x) {u v : Nat} (h : Acy R) (hn : ¬ Cn R u v) : Acy (Pl R u v) := by
  intro a b hab hc
  have hsub : ∀ {a b x y : Nat}, Rm R a b x y → R x y := fun h => h.1
  by_cases hf : (a = u ∧ b = v) ∨ (a = v ∧ b = u)
  · have hR : Cn R a b := hc.mono fun x y hxy => by
      rcases hxy.1 with k | k | k
      · exact k
      · rcases hf with ⟨rfl, rfl⟩ | ⟨rfl, rfl⟩
        · exact absurd k hxy.2.1
        · exact absurd k hxy.2.2
      · rcases hf with ⟨rfl, rfl⟩ | ⟨rfl, rfl⟩
        · exact absurd k hxy.2.2
        · exact absurd k hxy.2.1
    rcases hf with ⟨rfl, rfl⟩ | ⟨rfl, rfl⟩
    · exact hn hR
    · exact hn (hR.symm hs)
  · have hRab : R a b := by
      rcases hab with k | k | k
      · exact k
      · exact absurd (.inl k) hf
      · exact absurd (.inr k) hf
    have up : ∀ {x y}, Cn (Rm R a b) x y → Cn R x y := fun h => h.mono fun _ _ h => h.1
    have sy : ∀ {x y}, Cn (Rm R a b) x y → Cn (Rm R a b) y x := fun h => h.symm (Rm.symm hs)
    have key : ∀ n x y, Wk (Rm (Pl R u v) a b) n x y → Cn (Rm R a b) x y ∨ (Cn (Rm R a b) x u ∧ Cn (Rm R a b) v y) ∨ (Cn (Rm R a b) x v ∧ Cn (Rm R a b) u y) := fun n x y hw => by
      induction hw with
      | nil x => exact .inl (Cn.refl x)
      | cons n x y z e _ ih =>
        rcases e.1 with k | ⟨rfl, rfl⟩ | ⟨rfl, rfl⟩
        · have e1 : Cn (Rm R a b) x y := Cn.one ⟨k, e.2⟩
          rcases ih with ih | ⟨i1, i2⟩ | ⟨i1, i2⟩
          · exact .inl (e1.trans ih)
          · exact .inr (.inl ⟨e1.trans i1, i2⟩)
          · exact .inr (.inr ⟨e1.trans i1, i2⟩)
        · rcases ih with ih | ⟨i1, i2⟩ | ⟨i1, i2⟩
          · exact .inr (.inl ⟨Cn.refl _, ih⟩)
          · exact absurd ((up i1).symm hs) hn
          · exact .inl i2
        · rcases ih with ih | ⟨i1, i2⟩ | ⟨i1, i2⟩
          · exact .inr (.inr ⟨Cn.refl _, ih⟩)
          · exact .inl i2
          · exact absurd (up i1) hn
    obtain ⟨n, hw⟩ := hc
    rcases key n a b hw with k | ⟨k1, k2⟩ | ⟨k1, k2⟩
    · exact h a b hRab k
    · exact hn ((((up k1).symm hs).trans (Cn.one hRab)).trans ((up k2).symm hs))
    · exact hn (((up k2).trans ((Cn.one hRab).symm hs)).trans (up k1))
end

/-- The labels behind some edges: equal exactly where connected; how many edges, how many joins. -/
structure Uf (N : Nat) (rows : List (List Int)) (j k : Nat) (lab : Nat → Int) (e s : Nat) : Prop where
  ed : ∀ x y, Pe N rows j k x y → lab x = lab y
  cn : ∀ x y, x < N + rows.length → y < N + rows.length → lab x = lab y → Cn (Pe N rows j k) x y
  acy : e = s → Acy (Pe N rows j k)
  dup : e ≠ s → ∃ a b, Pe N rows rows.length 0 a b ∧ Cn (Rm (Pe N rows rows.length 0) a b) a b
  le : s ≤ e
section
variable {N : Nat} {rows : List (List Int)}
theorem Uf.zero {lab : Nat → Int} (hl : ∀ x, x < N + rows.length → lab x = x) : Uf N rows 0 0 lab 0 0 :=
  ⟨fun x y h => absurd h Pe.zero, fun x y hx hy h => by
    rw [hl x hx, hl y hy] at h
    have : x = y := by omega
    subst this; exact Cn.refl _, fun _ a b h => absurd h Pe.zero, fun h => absurd rfl h, Nat.le_refl _⟩
theorem Uf.cong {j k j' k' : Nat} {lab : Nat → Int} {e s : Nat} (h : Uf N rows j k lab e s) (he : ∀ x y, Pe N rows j k x y ↔ Pe N rows j' k' x y) : Uf N rows j' k' lab e s := by
  have : Pe N rows j k = Pe N rows j' k' := by funext x y; exact propext (he x y)
  obtain ⟨a, b, c, d, f⟩ := h
  rw [this] at a b c
  exact ⟨a, b, c, d, f⟩
theorem Pe.pl {j k X : Nat} {r : List Int} (hj : rows[j]? = some r) (hk : r[k]? = some (X : Int)) : Pe N rows j (k + 1) = Pl (Pe N rows j k) (N + j) X := by
  funext x y
  exact propext (Pe.succ hj hk)
theorem Edp.all {j k c v : Nat} (h : Edp N rows j k c v) : Edp N rows rows.length 0 c v := by
  obtain ⟨i, r, e, h1, h2, h3, _⟩ := h
  exact ⟨i, r, e, h1, h2, h3, .inl (List.getElem?_eq_some_iff.1 h1).1⟩
theorem Pe.all {j k x y : Nat} (h : Pe N rows j k x y) : Pe N rows rows.length 0 x y := by
  rcases h with h | h
  · exact .inl h.all
  · exact .inr h.all
/-- An edge within a part. -/
theorem Uf.skip {V : Int} (hr : RowsIn N rows) {j k X : Nat} {r : List Int} (hj : rows[j]? = some r) (hk : r[k]? = some (X : Int)) (hris : risB V r = true) {lab : Nat → Int} {e s : Nat} (h : Uf N rows j k lab e s) (hl : lab X = lab (N + j)) : Uf N rows j (k + 1) lab (e + 1) s := by
  have hX : X < N := by have := hr j r k X hj hk; omega
  have hjl := (List.getElem?_eq_some_iff.1 hj).1
  have hc := h.cn X (N + j) (by omega) (by omega) hl
  have hf := Pe.fresh hr hj hk hris
  have hle := h.le
  refine ⟨fun x y hp => ?_, fun x y hx hy hxy => ?_, fun he => by omega, fun _ => ?_, by omega⟩
  · rw [Pe.pl hj hk] at hp
    rcases hp with hp | ⟨rfl, rfl⟩ | ⟨rfl, rfl⟩
    · exact h.ed x y hp
    · exact hl.symm
    · exact hl
  · rw [Pe.pl hj hk]
    exact (h.cn x y hx hy hxy).mono fun _ _ k => .inl k
  · refine ⟨X, N + j, ?_, ?_⟩
    · exact .inr ⟨j, r, k, hj, rfl, hk, .inl hjl⟩
    · refine hc.mono fun x y hp => ⟨hp.all, ?_, ?_⟩
      · rintro ⟨rfl, rfl⟩; exact hf hp
      · rintro ⟨rfl, rfl⟩; exact hf hp.symm
/-- An edge between two parts. -/
theorem Uf.join {V : Int} (hr : RowsIn N rows) {j k X : Nat} {r : List Int} (hj : rows[j]? = some r) (hk : r[k]? = some (X : Int)) (hris : risB V r = true) {lab : Nat → Int} {e s : Nat} (h : Uf N rows j k lab e s) (hl : lab X ≠ lab (N + j)) :
    Uf N rows j (k + 1) (fun x => if lab x = lab X then lab (N + j) else lab x) (e + 1) (s + 1) := by
  have hX : X < N := by have := hr j r k X hj hk; omega
  have hjl := (List.getElem?_eq_some_iff.1 hj).1
  have hsy : ∀ x y, Pe N rows j k x y → Pe N rows j k y x := fun _ _ h => h.symm
  have hncn : ¬ Cn (Pe N rows j k) (N + j) X := fun hc => by
    obtain ⟨n, hw⟩ := hc
    have : ∀ n x y, Wk (Pe N rows j k) n x y → lab x = lab y := fun n x y hw => by
      induction hw with
      | nil x => rfl
      | cons n x y z a _ ih => rw [h.ed x y a, ih]
    exact hl (this n _ _ hw).symm
  have hle := h.le
  have up : ∀ {x y}, Cn (Pe N rows j k) x y → Cn (Pl (Pe N rows j k) (N + j) X) x y := fun h => h.mono fun _ _ k => .inl k
  have hedge : Cn (Pl (Pe N rows j k) (N + j) X) X (N + j) := Cn.one (.inr (.inr ⟨rfl, rfl⟩))
  have hsy2 : ∀ x y, Pl (Pe N rows j k) (N + j) X x y → Pl (Pe N rows j k) (N + j) X y x := fun x y h => by
    rcases h with h | ⟨a, b⟩ | ⟨a, b⟩
    · exact .inl h.symm
    · exact .inr (.inr ⟨b, a⟩)
    · exact .inr (.inl ⟨b, a⟩)
  refine ⟨fun x y hp => ?_, fun x y hx hy hxy => ?_, fun he => ?_, fun he => h.dup (by omega), by omega⟩
  · rw [Pe.pl hj hk] at hp
    show (if lab x = lab X then lab (N + j) else lab x) = if lab y = lab X then lab (N + j) else lab y
    rcases hp with hp | ⟨rfl, rfl⟩ | ⟨rfl, rfl⟩
    · rw [h.ed x y hp]
    · rw [if_neg (fun e => hl e.symm), if_pos rfl]
    · rw [if_pos rfl, if_neg (fun e => hl e.symm)]
  · rw [Pe.pl hj hk]
    change (if lab x = lab X then lab (N + j) else lab x) = (if lab y = lab X then lab (N + j) else lab y) at hxy
    by_cases h1 : lab x = lab X <;> by_cases h2 : lab y = lab X
    · exact up (h.cn x y hx hy (by rw [h1, h2]))
    · rw [if_pos h1, if_neg h2] at hxy
      exact ((up (h.cn x X hx (by omega) h1)).trans hedge).trans (up (h.cn (N + j) y (by omega) hy hxy))
    · rw [if_neg h1, if_pos h2] at hxy
      exact ((up (h.cn x (N + j) hx (by omega) hxy)).trans (hedge.symm hsy2)).trans (up (h.cn X y (by omega) hy h2.symm))
    · rw [if_neg h1, if_neg h2] at hxy
      exact up (h.cn x y hx hy hxy)
  · rw [Pe.pl hj hk]
    exact (h.acy (by omega)).pl hsy hncn
/-- The law's answer. -/
theorem forest {n : Int} (hp : pchkS N rows = 0) (h : GirOut N rows n) {lab : Nat → Int} {e s : Nat} (hu : Uf N rows rows.length 0 lab e s) : (n = 0 ↔ e = s) ∧ n % 2 = 0 ∧ (n = 0 ∨ 4 ≤ n) := by
  obtain ⟨N', e1, _, _, _, hr, hris⟩ := pchkS_ok hp
  have : N' = N := by omega
  subst this
  obtain ⟨h1, h2, h3⟩ := h.spec hp
  have hlk : ∀ {x y : Nat}, (y : Int) ∈ nbL N' rows x ↔ Pe N' rows rows.length 0 x y := lnk_iff hr hris
  have key : ∀ {a b x y : Nat}, Av (nbL N' rows) a b x y ↔ Rm (Pe N' rows rows.length 0) a b x y := by
    intro a b x y
    unfold Av Rm
    rw [hlk]
  have hz : n = 0 ↔ e = s := by
    constructor
    · intro hn
      by_cases he : e = s
      · exact he
      · exfalso
        obtain ⟨a, b, hab, m, hw⟩ := hu.dup he
        have := h3 m a b ⟨hlk.2 hab, hw.mono fun x y k => key.2 k⟩
        omega
    · intro he
      by_cases hn : 0 < n
      · exfalso
        obtain ⟨d, a, c, _, hb1, hb2⟩ := h2 hn
        exact hu.acy he a c (hlk.1 hb1) ⟨d, hb2.mono fun x y k => key.1 k⟩
      · omega
  refine ⟨hz, ?_⟩
  by_cases hn : 0 < n
  · obtain ⟨d, a, c, rfl, hb⟩ := h2 hn
    have := hb.even hr hris
    omega
  · have : n = 0 := by omega
    subst this; exact ⟨rfl, .inl rfl⟩
end
end Go.Proofs.Ytpphaicbdeeacaa
