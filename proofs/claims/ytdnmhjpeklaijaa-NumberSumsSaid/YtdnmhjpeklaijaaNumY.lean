/- Plain mathematics: the divisors out of the prime powers. -/
import Derived.Test.YtdnmhjpeklaijaaNumT
namespace Go.Proofs.Ytdnmhjpeklaijaa
set_option linter.unusedVariables false
set_option linter.unusedSimpArgs false

def dvE (L : List Nat) (p : Nat) : Nat → List Nat
  | 0 => L
  | e + 1 => dvE L p e ++ L.map (· * p ^ (e + 1))
def dvGo : List Nat → List (Nat × Nat) → List Nat
  | L, [] => L
  | L, x :: l => dvGo (dvE L x.1 x.2) l
def dvs (l : List (Nat × Nat)) : List Nat := dvGo [1] l

theorem dvGo_append : ∀ (L : List Nat) (l : List (Nat × Nat)) (x : Nat × Nat), dvGo L (l ++ [x]) = dvE (dvGo L l) x.1 x.2
  | L, [], x => rfl
  | L, y :: l, x => dvGo_append _ l x

theorem dvE_len (L : List Nat) (p : Nat) : ∀ e, (dvE L p e).length = L.length * (e + 1)
  | 0 => by simp [dvE]
  | e + 1 => by simp only [dvE, List.length_append, List.length_map]; rw [dvE_len L p e, Nat.mul_succ L.length (e + 1)]

theorem dvE_pre (L : List Nat) (p : Nat) : ∀ e, ∃ R, dvE L p e = L ++ R
  | 0 => ⟨[], by simp [dvE]⟩
  | e + 1 => by
    obtain ⟨R, hR⟩ := dvE_pre L p e
    exact ⟨R ++ L.map (· * p ^ (e + 1)), by simp only [dvE]; rw [hR, List.append_assoc]⟩

theorem dvE_mem (L : List Nat) (p d : Nat) : ∀ e, d ∈ dvE L p e ↔ ∃ j, j ≤ e ∧ ∃ c ∈ L, d = c * p ^ j
  | 0 => by
    simp only [dvE]
    constructor
    · intro h; exact ⟨0, Nat.le_refl _, d, h, by simp⟩
    · rintro ⟨j, hj, c, hc, rfl⟩
      obtain rfl : j = 0 := by omega
      simpa using hc
  | e + 1 => by
    simp only [dvE]
    rw [List.mem_append, dvE_mem L p d e, List.mem_map]
    constructor
    · rintro (⟨j, hj, c, hc, h⟩ | ⟨c, hc, rfl⟩)
      · exact ⟨j, by omega, c, hc, h⟩
      · exact ⟨e + 1, Nat.le_refl _, c, hc, rfl⟩
    · rintro ⟨j, hj, c, hc, h⟩
      rcases Nat.eq_or_lt_of_le hj with h1 | h1
      · subst h1; exact .inr ⟨c, hc, h.symm⟩
      · exact .inl ⟨j, by omega, c, hc, h⟩

theorem succ_le_pow {p : Nat} (hp : 2 ≤ p) : ∀ e, e + 1 ≤ p ^ e
  | 0 => by simp
  | e + 1 => by
    have ih := succ_le_pow hp e
    rw [Nat.pow_succ]
    have := Nat.mul_le_mul ih hp
    omega

theorem dvGo_len : ∀ (l : List (Nat × Nat)) (L : List Nat), PP l → (dvGo L l).length ≤ L.length * pw l
  | [], L, _ => by simp [dvGo, pw]
  | x :: l, L, h => by
    have ih := dvGo_len l (dvE L x.1 x.2) (fun y hy => h y (List.mem_cons_of_mem _ hy))
    rw [dvE_len] at ih
    simp only [dvGo, pw]
    refine Nat.le_trans ih ?_
    rw [← Nat.mul_assoc]
    exact Nat.mul_le_mul_right _ (Nat.mul_le_mul_left _ (succ_le_pow (h x (List.mem_cons_self ..)).1.1 _))

/-- All the divisors of n, each once. -/
def AllDivs (n : Nat) (L : List Nat) : Prop := L.Nodup ∧ ∀ d, d ∈ L ↔ d ∣ n

theorem IsP.coprime_pow {p m : Nat} (h : IsP p) (hm : ¬ p ∣ m) : ∀ j, Nat.gcd (p ^ j) m = 1
  | 0 => by simp
  | j + 1 => by
    rw [Nat.pow_succ]
    exact Nat.Coprime.mul_left (h.coprime_pow hm j) (h.coprime hm)

theorem dvE_all {L : List Nat} {m p : Nat} (hp : IsP p) (hm1 : 1 ≤ m) (hm : ¬ p ∣ m) (h : AllDivs m L) (e : Nat) : AllDivs (m * p ^ e) (dvE L p e) := by
  obtain ⟨h1, h2⟩ := h
  have hnd : ∀ c ∈ L, ¬ p ∣ c := fun c hc hd => hm (Nat.dvd_trans hd ((h2 c).1 hc))
  have hpe : ∀ j, 1 ≤ p ^ j := fun j => Nat.pow_pos (by have := hp.1; omega)
  constructor
  · induction e with
    | zero => exact h1
    | succ e ih =>
      simp only [dvE]
      rw [List.nodup_append]
      refine ⟨ih, ?_, fun a ha b hb hab => ?_⟩
      · rw [List.nodup_iff_pairwise_ne] at h1 ⊢
        rw [List.pairwise_map]
        exact h1.imp fun hab he => hab (Nat.eq_of_mul_eq_mul_right (hpe (e + 1)) he)
      · subst hab
        obtain ⟨j, hj, c, hc, hac⟩ := (dvE_mem L p a e).1 ha
        obtain ⟨d, hd, had⟩ := List.mem_map.1 hb
        have h5 : c * p ^ j = d * p ^ (e + 1 - j) * p ^ j := by
          rw [Nat.mul_assoc, ← Nat.pow_add, show e + 1 - j + j = e + 1 by omega, had, hac]
        have h6 := Nat.eq_of_mul_eq_mul_right (hpe j) h5
        refine hnd c hc ⟨d * p ^ (e - j), ?_⟩
        rw [h6, show e + 1 - j = e - j + 1 by omega, Nat.pow_succ]
        ac_rfl
  · intro d
    rw [dvE_mem]
    constructor
    · rintro ⟨j, hj, c, hc, rfl⟩
      exact Nat.mul_dvd_mul ((h2 c).1 hc) (Nat.pow_dvd_pow _ hj)
    · intro hd
      have hd1 : 1 ≤ d := Nat.pos_of_dvd_of_pos hd (Nat.mul_pos hm1 (hpe e))
      have e1 := mult_strip hp.1 d hd1
      have e2 := strip_not hp.1 d hd1
      generalize mult p d = j at *
      generalize strip p d = c at *
      subst e1
      have k1 : c ∣ m * p ^ e := Nat.dvd_trans (Nat.dvd_mul_left _ _) hd
      have k2 : c ∣ m := Nat.Coprime.dvd_of_dvd_mul_right (by rw [Nat.Coprime, Nat.gcd_comm]; exact hp.coprime_pow e2 e) k1
      have k3 : p ^ j ∣ m * p ^ e := Nat.dvd_trans (Nat.dvd_mul_right _ _) hd
      have k4 : p ^ j ∣ p ^ e := Nat.Coprime.dvd_of_dvd_mul_left (hp.coprime_pow hm j) k3
      have k5 : j ≤ e := (Nat.pow_dvd_pow_iff_le_right (by have := hp.1; omega)).1 k4
      exact ⟨j, k5, c, (h2 c).2 k2, Nat.mul_comm _ _⟩

theorem dvGo_all : ∀ (l : List (Nat × Nat)) (L : List Nat) (m : Nat), Asc l → PP l → 1 ≤ m → (∀ x ∈ l, ¬ x.1 ∣ m) → AllDivs m L → AllDivs (m * pw l) (dvGo L l)
  | [], L, m, _, _, _, _, h => by simpa [dvGo, pw] using h
  | x :: l, L, m, ha, hp, h1, hm, h => by
    obtain ⟨hx, _⟩ := hp x (List.mem_cons_self ..)
    have hpl : PP l := fun y hy => hp y (List.mem_cons_of_mem _ hy)
    have h2 := dvE_all hx h1 (hm x (List.mem_cons_self ..)) h x.2
    have h3 := dvGo_all l _ (m * x.1 ^ x.2) ha.2 hpl (Nat.mul_pos h1 (Nat.pow_pos (by have := hx.1; omega))) (fun y hy hd => by
      have hy' := (hpl y hy).1
      rcases hy'.dvd_mul hd with h6 | h6
      · exact hm y (List.mem_cons_of_mem _ hy) h6
      · have := hy'.dvd_isP hx (hy'.dvd_pow _ h6)
        have := ha.1 y hy
        omega) h2
    simp only [dvGo, pw]
    rwa [Nat.mul_assoc] at h3

theorem dvs_all {n : Nat} (hn : 1 ≤ n) : AllDivs n (dvs (facs n)) := by
  have h := dvGo_all (facs n) [1] 1 (facs_asc n) (facs_PP hn) (Nat.le_refl _) (fun x hx hd => by
    have := Nat.le_of_dvd (by omega) hd
    have := (facs_PP hn x hx).1.1
    omega) ⟨by simp, fun d => by simp [Nat.dvd_one]⟩
  rwa [Nat.one_mul, facs_pw n hn] at h

theorem AllDivs.sorted {n : Nat} {L M : List Nat} (h : AllDivs n L) (hp : M.Perm L) (hs : M.Pairwise (· ≤ ·)) : IsDivs n M := by
  refine ⟨?_, fun d => (hp.mem_iff).trans (h.2 d)⟩
  have hn : M.Pairwise (· ≠ ·) := List.nodup_iff_pairwise_ne.1 (hp.nodup_iff.2 h.1)
  exact (hs.and hn).imp fun ⟨a, b⟩ => by omega

/-- What the walk needs of a part of the prime powers. -/
theorem dvs_part {n : Nat} (hn : 1 ≤ n) {k : Nat} {x : Nat × Nat} (hx : (facs n)[k]? = some x) :
    (dvs ((facs n).take k)).length ≤ n ∧ (∀ d ∈ dvs ((facs n).take k), ∀ e, e ≤ x.2 → 1 ≤ d ∧ d * x.1 ^ e ≤ n) ∧
    (∀ e, e ≤ x.2 → (dvs ((facs n).take k)).length * (e + 1) ≤ n ∧ x.1 ^ e ≤ n) ∧ 1 ≤ (dvs ((facs n).take k)).length := by
  have hpp := facs_PP hn
  have hpk : PP ((facs n).take k) := fun y hy => hpp y (List.mem_of_mem_take hy)
  have hlen : (dvs ((facs n).take k)).length ≤ pw ((facs n).take k) := by
    have := dvGo_len ((facs n).take k) [1] hpk
    simpa [dvs] using this
  have hpart : ∀ e, e ≤ x.2 → pw ((facs n).take k) * x.1 ^ e ≤ n := fun e he => by
    have := pw_part (facs n) k e x hx he
    rw [facs_pw n hn] at this
    exact Nat.le_of_dvd hn this
  have hx1 := (hpp x (List.mem_of_getElem? hx)).1.1
  have hasc : Asc ((facs n).take k) := by
    have key : ∀ (l : List (Nat × Nat)) k, Asc l → Asc (l.take k) := by
      intro l
      induction l with
      | nil => intro k _; rw [List.take_nil]; trivial
      | cons y l ih =>
        intro k h
        cases k with
        | zero => trivial
        | succ k => exact ⟨fun z hz => h.1 z (List.mem_of_mem_take hz), ih k h.2⟩
    exact key _ k (facs_asc n)
  have hall := dvGo_all ((facs n).take k) [1] 1 hasc hpk (Nat.le_refl _) (fun y hy hd => by
    have := Nat.le_of_dvd (by omega) hd
    have := (hpk y hy).1.1
    omega) ⟨by simp, fun d => by simp [Nat.dvd_one]⟩
  rw [Nat.one_mul] at hall
  have hpos := pw_pos _ hpk
  refine ⟨?_, fun d hd e he => ?_, fun e he => ⟨?_, ?_⟩, List.length_pos_of_mem ((hall.2 1).2 (Nat.one_dvd _))⟩
  · have := hpart 0 (by omega); simp at this; omega
  · have h1 := (hall.2 d).1 hd
    have h2 := Nat.le_of_dvd hpos h1
    exact ⟨Nat.pos_of_dvd_of_pos h1 hpos, Nat.le_trans (Nat.mul_le_mul_right _ h2) (hpart e he)⟩
  · exact Nat.le_trans (Nat.mul_le_mul hlen (succ_le_pow hx1 e)) (hpart e he)
  · have h1 := hpart e he
    have h2 : 1 * x.1 ^ e ≤ pw ((facs n).take k) * x.1 ^ e := Nat.mul_le_mul_right _ hpos
    omega
end Go.Proofs.Ytdnmhjpeklaijaa
