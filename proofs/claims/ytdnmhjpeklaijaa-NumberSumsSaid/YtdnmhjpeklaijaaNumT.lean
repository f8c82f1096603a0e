/- Plain mathematics: the list of the divisors. -/
import Derived.Test.YtdnmhjpeklaijaaNumO
namespace Go.Proofs.Ytdnmhjpeklaijaa
set_option linter.unusedVariables false
set_option linter.unusedSimpArgs false

/-- The divisors of n, ascending. -/
def IsDivs (n : Nat) (L : List Nat) : Prop := L.Pairwise (· < ·) ∧ ∀ d, d ∈ L ↔ d ∣ n

theorem asc_unique : ∀ (L M : List Nat), L.Pairwise (· < ·) → M.Pairwise (· < ·) → (∀ d, d ∈ L ↔ d ∈ M) → L = M
  | [], [], _, _, _ => rfl
  | [], y :: M, _, _, h => by have := (h y).2 (List.mem_cons_self ..); cases this
  | x :: L, [], _, _, h => by have := (h x).1 (List.mem_cons_self ..); cases this
  | x :: L, y :: M, hL, hM, h => by
    obtain ⟨l1, l2⟩ := List.pairwise_cons.1 hL
    obtain ⟨m1, m2⟩ := List.pairwise_cons.1 hM
    have e : x = y := by
      rcases List.mem_cons.1 ((h x).1 (List.mem_cons_self ..)) with h1 | h1
      · exact h1
      · rcases List.mem_cons.1 ((h y).2 (List.mem_cons_self ..)) with h2 | h2
        · exact h2.symm
        · have := m1 x h1; have := l1 y h2; omega
    subst e
    congr 1
    refine asc_unique L M l2 m2 fun d => ⟨fun hd => ?_, fun hd => ?_⟩
    · rcases List.mem_cons.1 ((h d).1 (List.mem_cons_of_mem _ hd)) with h1 | h1
      · have := l1 d hd; omega
      · exact h1
    · rcases List.mem_cons.1 ((h d).2 (List.mem_cons_of_mem _ hd)) with h1 | h1
      · have := m1 d hd; omega
      · exact h1

theorem IsDivs.uniq {n : Nat} {L M : List Nat} (h : IsDivs n L) (k : IsDivs n M) : L = M :=
  asc_unique L M h.1 k.1 fun d => (h.2 d).trans (k.2 d).symm

def lowL (n : Nat) : Nat → List Nat
  | 0 => []
  | k + 1 => if n % (k + 1) = 0 then lowL n k ++ [k + 1] else lowL n k
def highL (n : Nat) : Nat → List Nat
  | 0 => []
  | k + 1 => if n % (k + 1) = 0 ∧ k + 1 ≠ n / (k + 1) then highL n k ++ [n / (k + 1)] else highL n k

theorem lowL_len (n : Nat) : ∀ k, (lowL n k).length ≤ k
  | 0 => by simp [lowL]
  | k + 1 => by
    have := lowL_len n k
    simp only [lowL]
    split <;> simp <;> omega
theorem highL_len (n : Nat) : ∀ k, (highL n k).length ≤ k
  | 0 => by simp [highL]
  | k + 1 => by
    have := highL_len n k
    simp only [highL]
    split <;> simp <;> omega

theorem lowL_mem (n : Nat) : ∀ k d, d ∈ lowL n k ↔ 1 ≤ d ∧ d ≤ k ∧ d ∣ n
  | 0, d => by simp [lowL]; omega
  | k + 1, d => by
    have ih := lowL_mem n k d
    simp only [lowL]
    split
    · rename_i h
      rw [List.mem_append, ih, List.mem_singleton]
      constructor
      · rintro (⟨h1, h2, h3⟩ | rfl)
        · exact ⟨h1, by omega, h3⟩
        · exact ⟨by omega, by omega, Nat.dvd_of_mod_eq_zero h⟩
      · rintro ⟨h1, h2, h3⟩
        rcases Nat.eq_or_lt_of_le h2 with h4 | h4
        · exact .inr h4
        · exact .inl ⟨h1, by omega, h3⟩
    · rename_i h
      rw [ih]
      constructor
      · rintro ⟨h1, h2, h3⟩; exact ⟨h1, by omega, h3⟩
      · rintro ⟨h1, h2, h3⟩
        rcases Nat.eq_or_lt_of_le h2 with h4 | h4
        · subst h4; exact absurd (Nat.mod_eq_zero_of_dvd h3) h
        · exact ⟨h1, by omega, h3⟩

theorem highL_mem (n : Nat) : ∀ k m, m ∈ highL n k ↔ ∃ d, 1 ≤ d ∧ d ≤ k ∧ d ∣ n ∧ d ≠ n / d ∧ m = n / d
  | 0, m => by
    simp only [highL]
    constructor
    · intro h; cases h
    · rintro ⟨d, h1, h2, _⟩; omega
  | k + 1, m => by
    have ih := highL_mem n k m
    simp only [highL]
    split
    · rename_i h
      rw [List.mem_append, ih, List.mem_singleton]
      constructor
      · rintro (⟨d, h1, h2, h3⟩ | rfl)
        · exact ⟨d, h1, by omega, h3⟩
        · exact ⟨k + 1, by omega, by omega, Nat.dvd_of_mod_eq_zero h.1, h.2, rfl⟩
      · rintro ⟨d, h1, h2, h3, h4, h5⟩
        rcases Nat.eq_or_lt_of_le h2 with h6 | h6
        · subst h6; exact .inr h5
        · exact .inl ⟨d, h1, by omega, h3, h4, h5⟩
    · rename_i h
      rw [ih]
      constructor
      · rintro ⟨d, h1, h2, h3⟩; exact ⟨d, h1, by omega, h3⟩
      · rintro ⟨d, h1, h2, h3, h4, h5⟩
        rcases Nat.eq_or_lt_of_le h2 with h6 | h6
        · subst h6; exact absurd ⟨Nat.mod_eq_zero_of_dvd h3, h4⟩ h
        · exact ⟨d, h1, by omega, h3, h4, h5⟩

theorem lowL_asc (n : Nat) : ∀ k, (lowL n k).Pairwise (· < ·)
  | 0 => by simp [lowL]
  | k + 1 => by
    have ih := lowL_asc n k
    simp only [lowL]
    split
    · rw [List.pairwise_append]
      refine ⟨ih, by simp, fun a ha b hb => ?_⟩
      rw [List.mem_singleton] at hb
      have := ((lowL_mem n k a).1 ha).2.1
      omega
    · exact ih

theorem div_anti {n d e : Nat} (hn : 1 ≤ n) (hd : 1 ≤ d) (h1 : d ∣ n) (h2 : e ∣ n) (h : d < e) : n / e < n / d := by
  obtain ⟨a, ha⟩ := h1
  obtain ⟨b, hb⟩ := h2
  have e1 : n / d = a := by rw [ha, Nat.mul_div_cancel_left _ (by omega)]
  have e2 : n / e = b := by rw [hb, Nat.mul_div_cancel_left _ (by omega)]
  rw [e1, e2]
  rcases Nat.lt_or_ge b a with h3 | h3
  · exact h3
  · exfalso
    have hb1 : 1 ≤ b := by
      rcases Nat.eq_zero_or_pos b with h0 | h0
      · subst h0; simp at hb; omega
      · exact h0
    have h4 : d * a ≤ d * b := Nat.mul_le_mul_left _ h3
    have h5 : d * b < e * b := Nat.mul_lt_mul_of_pos_right h hb1
    omega

theorem highL_desc (n : Nat) (hn : 1 ≤ n) : ∀ k, (highL n k).Pairwise (· > ·)
  | 0 => by simp [highL]
  | k + 1 => by
    have ih := highL_desc n hn k
    simp only [highL]
    split
    · rename_i h
      rw [List.pairwise_append]
      refine ⟨ih, by simp, fun a ha b hb => ?_⟩
      rw [List.mem_singleton] at hb
      obtain ⟨d, d1, d2, d3, d4, d5⟩ := (highL_mem n k a).1 ha
      subst hb d5
      exact div_anti hn d1 d3 (Nat.dvd_of_mod_eq_zero h.1) (by omega)
    · exact ih

theorem refDivs {n s : Nat} (hn : 1 ≤ n) (h1 : s * s ≤ n) (h2 : n < (s + 1) * (s + 1)) : IsDivs n (lowL n s ++ (highL n s).reverse) := by
  have big : ∀ d, 1 ≤ d → d ≤ s → d ∣ n → d ≠ n / d → s < n / d := by
    intro d d1 d2 d3 d4
    obtain ⟨a, ha⟩ := d3
    have e1 : n / d = a := by rw [ha, Nat.mul_div_cancel_left _ (by omega)]
    rw [e1] at d4 ⊢
    rcases Nat.lt_or_ge s a with h3 | h3
    · exact h3
    · exfalso
      rcases Nat.lt_or_ge d s with h4 | h4
      · have h5 : d * a ≤ d * s := Nat.mul_le_mul_left _ h3
        have h6 : d * s < s * s := Nat.mul_lt_mul_of_pos_right h4 (by omega)
        omega
      · have : d = s := by omega
        subst this
        have h5 : d * a < d * d := Nat.mul_lt_mul_of_pos_left (by omega) (by omega)
        omega
  refine ⟨?_, fun d => ?_⟩
  · rw [List.pairwise_append]
    refine ⟨lowL_asc n s, ?_, fun a ha b hb => ?_⟩
    · rw [List.pairwise_reverse]
      exact highL_desc n hn s
    · rw [List.mem_reverse] at hb
      obtain ⟨d, d1, d2, d3, d4, d5⟩ := (highL_mem n s b).1 hb
      have := ((lowL_mem n s a).1 ha).2.1
      have := big d d1 d2 d3 d4
      omega
  · rw [List.mem_append, List.mem_reverse, lowL_mem, highL_mem]
    constructor
    · rintro (⟨_, _, h⟩ | ⟨e, e1, e2, e3, e4, rfl⟩)
      · exact h
      · exact Nat.div_dvd_of_dvd e3
    · intro hd
      have d0 : 1 ≤ d := Nat.pos_of_dvd_of_pos hd hn
      rcases Nat.lt_or_ge s d with h3 | h3
      · right
        obtain ⟨a, ha⟩ := hd
        have a0 : 1 ≤ a := by
          rcases Nat.eq_zero_or_pos a with h0 | h0
          · subst h0; simp at ha; omega
          · exact h0
        have a1 : a ≤ s := by
          rcases Nat.lt_or_ge s a with h4 | h4
          · have := Nat.mul_le_mul (show s + 1 ≤ d by omega) (show s + 1 ≤ a by omega)
            omega
          · exact h4
        have e1 : n / a = d := by rw [ha, Nat.mul_div_cancel _ (by omega)]
        exact ⟨a, a0, a1, ⟨d, by rw [ha, Nat.mul_comm]⟩, by omega, e1.symm⟩
      · exact .inl ⟨d0, h3, hd⟩

theorem IsDivs.pos {n : Nat} {L : List Nat} (h : IsDivs n L) (hn : 1 ≤ n) : ∀ d ∈ L, 1 ≤ d ∧ d ≤ n := fun d hd =>
  ⟨Nat.pos_of_dvd_of_pos ((h.2 d).1 hd) hn, Nat.le_of_dvd hn ((h.2 d).1 hd)⟩

/-- The first of the divisors of Phi that makes the power 1 is the order. -/
theorem first_order {a : Int} {n : Nat} (hn : 1 ≤ n) (hg : Int.gcd (a % n) n = 1) {L : List Nat} (hL : IsDivs (phi n) L) {k d : Nat} (hk : L[k]? = some d)
    (hP : PO a n d) (hb : ∀ j e, j < k → L[j]? = some e → ¬ PO a n e) : d = ordP a n := by
  obtain ⟨o1, o2, o3, o4⟩ := ordP_spec a n hn hg
  have h1 := o4 d hP
  obtain ⟨j, hj⟩ := List.mem_iff_getElem?.1 ((hL.2 _).2 o2)
  have hjk : j < L.length := (List.getElem?_eq_some_iff.1 hj).1
  have hkl : k < L.length := (List.getElem?_eq_some_iff.1 hk).1
  rcases Nat.lt_trichotomy j k with h | h | h
  · exact absurd o3 (hb j _ h hj)
  · subst h; rw [hk] at hj; exact Option.some.inj hj
  · exfalso
    have h2 := (List.pairwise_iff_getElem.1 hL.1) k j hkl hjk h
    rw [(List.getElem?_eq_some_iff.1 hk).2, (List.getElem?_eq_some_iff.1 hj).2] at h2
    have := Nat.le_of_dvd (by
      have := (hL.pos (phi_pos hn)) d (List.mem_of_getElem? hk)
      omega) h1
    omega

theorem order_exists {a : Int} {n : Nat} (hn : 1 ≤ n) (hg : Int.gcd (a % n) n = 1) {L : List Nat} (hL : IsDivs (phi n) L) : ∃ e ∈ L, PO a n e := by
  obtain ⟨o1, o2, o3, o4⟩ := ordP_spec a n hn hg
  exact ⟨_, (hL.2 _).2 o2, o3⟩
end Go.Proofs.Ytdnmhjpeklaijaa
