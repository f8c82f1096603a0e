/- For each modulus a generator or a divisor: the general step. -/
import Derived.Test.YtpphaicbdeeacaaFldTac
namespace Go.Proofs.Ytpphaicbdeeacaa
set_option linter.unusedVariables false
set_option linter.unusedSimpArgs false

/-- The bounds of a table's entry. -/
def bndC (p m q t : Nat) : Bool :=
  if t % 2 = 0 then decide (1 ≤ t / 2 % 8) && (decide (2 * (t / 2 % 8) ≤ m) && decide (t / 16 < p ^ (t / 2 % 8))) else decide (1 ≤ t / 2) && decide (t / 2 < q)

/-- A generator, or a divisor of at most half the degree. -/
def GenOrDiv (p m : Nat) (low : List Nat) : Prop :=
  IsF p m (lf low) ∨ ∃ d u, 1 ≤ d ∧ 2 * d ≤ m ∧ u < p ^ d ∧ EqM p (ap d (dig p d u) (m + 1) (lf (low ++ [1])) one_) (fun _ => 0)

theorem tab_sound {p m q : Nat} {b1 : List Bool} {D : List (List Bool)} {T : List Nat} (hp : 2 ≤ p) (hm : 1 ≤ m) (hq : p ^ m = q) (hT : tabC p m b1 D T 0 = true) (hl : T.length = q)
    (hb : ∀ t ∈ T, bndC p m q t = true) (ho : ofBits 0 b1 = q - 1) (hC : ∀ e, e < q - 1 → e ∣ q - 1 → ∃ y ∈ D, e ∣ ofBits 0 y) (v : Nat) (hv : v < q) : GenOrDiv p m (dgC p m v) := by
  obtain ⟨t, ht⟩ : ∃ t, T[v]? = some t := ⟨_, List.getElem?_eq_getElem (by omega)⟩
  have h1 := tabC_get T 0 v t hT ht
  rw [Nat.zero_add] at h1
  have h2 := hb t (List.mem_of_getElem? ht)
  unfold entC at h1
  unfold bndC at h2
  by_cases he : t % 2 = 0
  · rw [if_pos he] at h2
    have h3 : Nat.beq (Nat.mod t 2) 0 = true := by
      show Nat.beq (t % 2) 0 = true
      rw [he]; rfl
    rw [h3] at h1
    simp only [Bool.and_eq_true, decide_eq_true_eq] at h2
    obtain ⟨a, b, c⟩ := h2
    refine .inr ⟨t / 2 % 8, t / 16, a, b, c, ?_⟩
    have := dvC_sound hp a h1
    rwa [dgC_len] at this
  · rw [if_neg he] at h2
    have h3 : Nat.beq (Nat.mod t 2) 0 = false := by
      show Nat.beq (t % 2) 0 = false
      cases h : Nat.beq (t % 2) 0 with
      | false => rfl
      | true => exact absurd (Nat.eq_of_beq_eq_true h) he
    rw [h3] at h1
    simp only [Bool.and_eq_true, decide_eq_true_eq] at h2
    obtain ⟨a, b⟩ := h2
    have hgl : t / 2 < p ^ m := by rw [hq]; exact b
    obtain ⟨k1, k2⟩ := gnC_sound hp hm (dgC_len p m v) hgl h1
    refine .inl ⟨t / 2, a, hgl, gen_of (D := D.map (ofBits 0)) hp hm (by rw [hq, ← ho]; exact k1) (fun y hy => ?_) (fun e h1 h2 => ?_)⟩
    · obtain ⟨x, hx, rfl⟩ := List.mem_map.1 hy
      exact k2 x hx
    · rw [hq] at h1 h2
      obtain ⟨y, hy, hd⟩ := hC e h1 h2
      exact ⟨_, List.mem_map.2 ⟨y, hy, rfl⟩, hd⟩

theorem tab_one {p g : Nat} {b1 : List Bool} {D : List (List Bool)} (hp : 2 ≤ p) (hg1 : 1 ≤ g) (hg : g < p) (hT : gnC p 1 g b1 D (dgC p 1 0) = true) (ho : ofBits 0 b1 = p - 1)
    (hC : ∀ e, e < p - 1 → e ∣ p - 1 → ∃ y ∈ D, e ∣ ofBits 0 y) : GenOrDiv p 1 (dgC p 1 0) := by
  have hgl : g < p ^ 1 := by rw [Nat.pow_one]; exact hg
  obtain ⟨k1, k2⟩ := gnC_sound hp (Nat.le_refl 1) (dgC_len p 1 0) hgl hT
  refine .inl ⟨g, hg1, hgl, gen_of (D := D.map (ofBits 0)) hp (Nat.le_refl 1) (by rw [Nat.pow_one, ← ho]; exact k1) (fun y hy => ?_) (fun e h1 h2 => ?_)⟩
  · obtain ⟨x, hx, rfl⟩ := List.mem_map.1 hy
    exact k2 x hx
  · rw [Nat.pow_one] at h1 h2
    obtain ⟨y, hy, hd⟩ := hC e h1 h2
    exact ⟨_, List.mem_map.2 ⟨y, hy, rfl⟩, hd⟩
end Go.Proofs.Ytpphaicbdeeacaa
