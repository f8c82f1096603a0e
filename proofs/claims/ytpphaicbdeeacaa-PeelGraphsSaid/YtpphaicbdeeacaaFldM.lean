/- Plain mathematics: residues of polynomials with integer coefficients modulo a monic one, as functions on the coefficients' places; then modulo p. -/
namespace Go.Proofs.Ytpphaicbdeeacaa
set_option linter.unusedVariables false
set_option linter.unusedSimpArgs false

/-- A list of coefficients, as a function. -/
abbrev Vc := Nat → Int

/-- Multiplication by X modulo X^m + low. -/
def sX (m : Nat) (low : Vc) (v : Vc) : Vc := fun j => if j < m then (if j = 0 then 0 else v (j - 1)) - v (m - 1) * low j else 0
def sXn (m : Nat) (low : Vc) : Nat → Vc → Vc
  | 0, v => v
  | k + 1, v => sX m low (sXn m low k v)
/-- The polynomial with the first n coefficients of y, times x. -/
def ap (m : Nat) (low : Vc) : Nat → Vc → Vc → Vc
  | 0, _, _ => fun _ => 0
  | n + 1, y, x => fun j => ap m low n y x j + y n * sXn m low n x j
def one_ : Vc := fun j => if j = 0 then 1 else 0
/-- The product. -/
def mulV (m : Nat) (low : Vc) (x y : Vc) : Vc := ap m low m y x

/-- A linear map. -/
def Lin (T : Vc → Vc) : Prop := ∀ (a b : Int) (v w : Vc), T (fun j => a * v j + b * w j) = fun j => a * T v j + b * T w j

variable {m : Nat} {low : Vc}

theorem sX_lin : Lin (sX m low) := by
  intro a b v w
  funext j
  unfold sX
  split
  · split <;> grind
  · simp
theorem Lin.comp {T U : Vc → Vc} (h : Lin T) (k : Lin U) : Lin (fun v => T (U v)) := by
  intro a b v w
  show T (U _) = _
  rw [k, h]
theorem sXn_lin : ∀ k, Lin (sXn m low k)
  | 0 => fun _ _ _ _ => rfl
  | k + 1 => by
    have := Lin.comp (sX_lin (m := m) (low := low)) (sXn_lin k)
    exact this
theorem Lin.zero {T : Vc → Vc} (h : Lin T) : T (fun _ => 0) = fun _ => 0 := by
  have := h 0 0 (fun _ => 0) (fun _ => 0)
  simp at this
  exact this
theorem Lin.add {T : Vc → Vc} (h : Lin T) (v w : Vc) : T (fun j => v j + w j) = fun j => T v j + T w j := by
  have := h 1 1 v w
  simpa using this
theorem Lin.add_smul {T : Vc → Vc} (h : Lin T) (v w : Vc) (b : Int) : T (fun j => v j + b * w j) = fun j => T v j + b * T w j := by
  have := h 1 b v w
  simpa using this
theorem ap_lin : ∀ n y, Lin (ap m low n y)
  | 0, y => by intro a b v w; funext j; simp [ap]
  | n + 1, y => by
    intro a b v w
    funext j
    simp only [ap]
    rw [ap_lin n y, sXn_lin n]
    grind

theorem sXn_sX : ∀ k v, sXn m low k (sX m low v) = sX m low (sXn m low k v)
  | 0, v => rfl
  | k + 1, v => by simp only [sXn]; rw [sXn_sX k v]

theorem sXn_add : ∀ i k v, sXn m low (i + k) v = sXn m low i (sXn m low k v)
  | 0, k, v => by simp [sXn]
  | i + 1, k, v => by rw [Nat.add_right_comm]; simp only [sXn]; rw [sXn_add i k v]

/-- A linear map that commutes with X commutes with all polynomials. -/
theorem ap_comm {T : Vc → Vc} (h : Lin T) (hc : ∀ v, T (sX m low v) = sX m low (T v)) : ∀ n y x, T (ap m low n y x) = ap m low n y (T x)
  | 0, y, x => by simp only [ap]; exact h.zero
  | n + 1, y, x => by
    have hk : ∀ k v, T (sXn m low k v) = sXn m low k (T v) := by
      intro k
      induction k with
      | zero => intro v; rfl
      | succ k ih => intro v; simp only [sXn]; rw [hc, ih]
    simp only [ap]
    rw [h.add_smul, ap_comm h hc n y x, hk]

theorem ap_sX (n : Nat) (y x : Vc) : ap m low n y (sX m low x) = sX m low (ap m low n y x) := (ap_comm sX_lin (fun _ => rfl) n y x).symm

theorem ap_ap (n k : Nat) (y z x : Vc) : ap m low n y (ap m low k z x) = ap m low k z (ap m low n y x) :=
  ap_comm (ap_lin n y) (fun v => ap_sX n y v) k z x

theorem sXn_one : ∀ i, i < m → sXn m low i one_ = fun j => if j = i then 1 else 0
  | 0, _ => rfl
  | i + 1, h => by
    simp only [sXn]
    rw [sXn_one i (by omega)]
    funext j
    unfold sX
    show (if j < m then (if j = 0 then 0 else if j - 1 = i then (1 : Int) else 0) - (if m - 1 = i then (1 : Int) else 0) * low j else 0) = _
    rw [show (if m - 1 = i then (1 : Int) else 0) = 0 by rw [if_neg (by omega)]]
    by_cases h1 : j = i + 1
    · subst h1; simp [h]
    · rw [if_neg h1]
      by_cases h2 : j < m
      · rw [if_pos h2]
        by_cases h3 : j = 0
        · simp [h3]
        · rw [if_neg h3, if_neg (by omega)]; simp
      · rw [if_neg h2]

theorem ap_one : ∀ n (y : Vc), n ≤ m → ap m low n y one_ = fun j => if j < n then y j else 0
  | 0, y, _ => by simp [ap]
  | n + 1, y, h => by
    simp only [ap]
    rw [ap_one n y (by omega), sXn_one n (by omega)]
    funext j
    show (if j < n then y j else 0) + y n * (if j = n then 1 else 0) = _
    by_cases h1 : j < n
    · rw [if_pos h1, if_neg (show ¬ j = n by omega), if_pos (by omega)]; simp
    · rw [if_neg h1]
      by_cases h2 : j = n
      · subst h2; simp
      · rw [if_neg h2, if_neg (by omega)]; simp

/-- No coefficient from m on. -/
def Sup (m : Nat) (v : Vc) : Prop := ∀ j, m ≤ j → v j = 0
theorem Sup.ap_one {y : Vc} (h : Sup m y) : ap m low m y one_ = y := by
  rw [Go.Proofs.Ytpphaicbdeeacaa.ap_one m y (Nat.le_refl _)]
  funext j
  by_cases h1 : j < m
  · rw [if_pos h1]
  · rw [if_neg h1, h j (by omega)]

theorem sX_sup (v : Vc) : Sup m (sX m low v) := fun j h => by unfold sX; rw [if_neg (by omega)]
theorem sXn_sup {v : Vc} (h : Sup m v) : ∀ k, Sup m (sXn m low k v)
  | 0 => h
  | k + 1 => sX_sup _
theorem ap_sup {x : Vc} (h : Sup m x) : ∀ n y, Sup m (ap m low n y x)
  | 0, y => fun _ _ => rfl
  | n + 1, y => fun j hj => by simp only [ap]; rw [ap_sup h n y j hj, sXn_sup h n j hj]; simp

theorem mulV_comm {x y : Vc} (hx : Sup m x) (hy : Sup m y) : mulV m low x y = mulV m low y x := by
  unfold mulV
  conv => lhs; rw [← hx.ap_one (low := low), ap_ap, hy.ap_one]
theorem mulV_sup {x y : Vc} (hx : Sup m x) : Sup m (mulV m low x y) := ap_sup hx _ _
theorem mulV_assoc {x y z : Vc} (hx : Sup m x) (hy : Sup m y) (hz : Sup m z) : mulV m low (mulV m low x y) z = mulV m low x (mulV m low y z) := by
  rw [mulV_comm hx (mulV_sup hy), mulV_comm hx hy]
  unfold mulV
  rw [ap_ap]
theorem mulV_one {x : Vc} (hx : Sup m x) (hm : 1 ≤ m) : mulV m low x one_ = x := by
  have h1 : Sup m one_ := fun j hj => by unfold one_; rw [if_neg (by omega)]
  rw [mulV_comm hx h1]
  exact hx.ap_one
theorem mulV_add (x y z : Vc) : mulV m low (fun j => x j + y j) z = fun j => mulV m low x z j + mulV m low y z j := (ap_lin m z).add x y

/-! ### Horner's form -/
def hor (m : Nat) (low : Vc) (x : Vc) : Nat → Vc → Vc
  | 0, _ => fun _ => 0
  | k + 1, y => fun j => sX m low (hor m low x k (fun t => y (t + 1))) j + y 0 * x j

theorem ap_shift : ∀ n (y x : Vc), ap m low (n + 1) y x = fun j => y 0 * x j + sX m low (ap m low n (fun t => y (t + 1)) x) j
  | 0, y, x => by
    have h0 : sX m low (fun _ => 0) = fun _ => 0 := sX_lin.zero
    funext j; simp only [ap, sXn]; rw [h0]; simp
  | n + 1, y, x => by
    funext j
    rw [ap, ap_shift n y x]
    rw [ap, sX_lin.add_smul]
    simp only [sXn]
    exact Int.add_assoc _ _ _

theorem hor_ap : ∀ n (y x : Vc), hor m low x n y = ap m low n y x
  | 0, y, x => rfl
  | n + 1, y, x => by
    funext j
    rw [ap_shift, hor, hor_ap n]
    exact Int.add_comm _ _

/-! ### Modulo p -/
def EqM (p : Int) (v w : Vc) : Prop := ∀ j, v j % p = w j % p
theorem EqM.refl (p : Int) (v : Vc) : EqM p v v := fun _ => rfl
theorem EqM.symm {p : Int} {v w : Vc} (h : EqM p v w) : EqM p w v := fun j => (h j).symm
theorem EqM.trans {p : Int} {u v w : Vc} (h : EqM p u v) (k : EqM p v w) : EqM p u w := fun j => (h j).trans (k j)

theorem eqm_iff {p a b : Int} : a % p = b % p ↔ ∃ c, a = b + p * c := by
  constructor
  · intro h
    have := Int.emod_emod_of_dvd a (Int.dvd_refl p)
    have h1 := Int.mul_ediv_add_emod a p
    have h2 := Int.mul_ediv_add_emod b p
    exact ⟨a / p - b / p, by rw [Int.mul_sub]; omega⟩
  · rintro ⟨c, rfl⟩
    exact Int.add_mul_emod_self_left b p c

theorem eqm_add {p a b c d : Int} (h : a % p = b % p) (k : c % p = d % p) : (a + c) % p = (b + d) % p := by
  obtain ⟨x, rfl⟩ := eqm_iff.1 h
  obtain ⟨y, rfl⟩ := eqm_iff.1 k
  exact eqm_iff.2 ⟨x + y, by grind⟩
theorem eqm_mul {p a b c d : Int} (h : a % p = b % p) (k : c % p = d % p) : (a * c) % p = (b * d) % p := by
  obtain ⟨x, rfl⟩ := eqm_iff.1 h
  obtain ⟨y, rfl⟩ := eqm_iff.1 k
  exact eqm_iff.2 ⟨x * d + b * y + p * x * y, by grind⟩
theorem eqm_sub {p a b c d : Int} (h : a % p = b % p) (k : c % p = d % p) : (a - c) % p = (b - d) % p := by
  obtain ⟨x, rfl⟩ := eqm_iff.1 h
  obtain ⟨y, rfl⟩ := eqm_iff.1 k
  exact eqm_iff.2 ⟨x - y, by grind⟩

theorem EqM.sX {p : Int} {v w : Vc} (h : EqM p v w) : EqM p (sX m low v) (sX m low w) := fun j => by
  unfold Go.Proofs.Ytpphaicbdeeacaa.sX
  split
  · refine eqm_sub ?_ (eqm_mul (h _) rfl)
    split
    · rfl
    · exact h _
  · rfl
theorem EqM.sXn {p : Int} {v w : Vc} (h : EqM p v w) : ∀ k, EqM p (sXn m low k v) (sXn m low k w)
  | 0 => h
  | k + 1 => (EqM.sXn h k).sX
theorem EqM.ap {p : Int} {v w y z : Vc} (h : EqM p v w) (k : EqM p y z) : ∀ n, EqM p (ap m low n y v) (ap m low n z w)
  | 0 => fun _ => rfl
  | n + 1 => fun j => by
    simp only [Go.Proofs.Ytpphaicbdeeacaa.ap]
    exact eqm_add (EqM.ap h k n j) (eqm_mul (k n) (h.sXn n j))
theorem EqM.mulV {p : Int} {v w y z : Vc} (h : EqM p v w) (k : EqM p y z) : EqM p (mulV m low v y) (mulV m low w z) := h.ap k m

/-! ### Codes -/
def dig (p m x : Nat) : Vc := fun j => if j < m then ((x / p ^ j % p : Nat) : Int) else 0
/-- The number with the digits v. -/
def cod (p : Nat) : Nat → Vc → Int
  | 0, _ => 0
  | n + 1, v => cod p n v + v n * ((p ^ n : Nat) : Int)

theorem dig_sup (p m x : Nat) : Sup m (dig p m x) := fun j h => by unfold dig; rw [if_neg (by omega)]
theorem dig_rng {p : Nat} (hp : 1 ≤ p) (m x j : Nat) : 0 ≤ dig p m x j ∧ dig p m x j < p := by
  unfold dig
  split
  · have := Nat.mod_lt (x / p ^ j) hp
    omega
  · omega

/-- Digits: each from 0 to p - 1. -/
def IsD (p m : Nat) (v : Vc) : Prop := Sup m v ∧ ∀ j, 0 ≤ v j ∧ v j < p
theorem dig_isD {p : Nat} (hp : 1 ≤ p) (m x : Nat) : IsD p m (dig p m x) := ⟨dig_sup p m x, dig_rng hp m x⟩

theorem cod_rng {p : Nat} {v : Vc} (h : ∀ j, 0 ≤ v j ∧ v j < p) : ∀ n, 0 ≤ cod p n v ∧ cod p n v < ((p ^ n : Nat) : Int)
  | 0 => by simp [cod]
  | n + 1 => by
    obtain ⟨h1, h2⟩ := cod_rng h n
    obtain ⟨h3, h4⟩ := h n
    simp only [cod]
    have h5 : 0 ≤ v n * ((p ^ n : Nat) : Int) := Int.mul_nonneg h3 (by omega)
    have h6 : (v n + 1) * ((p ^ n : Nat) : Int) ≤ p * ((p ^ n : Nat) : Int) := Int.mul_le_mul_of_nonneg_right (by omega) (by omega)
    have h7 : ((p ^ (n + 1) : Nat) : Int) = p * ((p ^ n : Nat) : Int) := by rw [Nat.pow_succ, Int.natCast_mul, Int.mul_comm]
    rw [Int.add_mul] at h6
    omega

theorem cod_congr {p : Nat} {v w : Vc} : ∀ n, (∀ j, j < n → v j = w j) → cod p n v = cod p n w
  | 0, _ => rfl
  | n + 1, h => by simp only [cod]; rw [cod_congr n fun j hj => h j (by omega), h n (by omega)]

theorem cod_dig {p : Nat} (hp : 1 ≤ p) (m x : Nat) : ∀ n, n ≤ m → cod p n (dig p m x) = ((x % p ^ n : Nat) : Int)
  | 0, _ => by simp [cod, Nat.mod_one]
  | n + 1, h => by
    simp only [cod]
    rw [cod_dig hp m x n (by omega)]
    unfold dig
    rw [if_pos (by omega), Nat.pow_succ, Nat.mod_mul, Int.natCast_add, Int.natCast_mul, Int.mul_comm (((x / p ^ n % p : Nat)) : Int)]

theorem cod_dig' {p m x : Nat} (hp : 1 ≤ p) (h : x < p ^ m) : cod p m (dig p m x) = x := by
  rw [cod_dig hp m x m (Nat.le_refl _), Nat.mod_eq_of_lt h]

theorem dig_cod {p : Nat} (hp : 1 ≤ p) {v : Vc} (h : ∀ j, 0 ≤ v j ∧ v j < p) : ∀ n j, j < n → (cod p n v).toNat / p ^ j % p = (v j).toNat
  | 0, j, hj => by omega
  | n + 1, j, hj => by
    obtain ⟨h1, h2⟩ := cod_rng h n
    obtain ⟨h3, h4⟩ := h n
    have ih := dig_cod hp h n
    simp only [cod]
    obtain ⟨a, ha⟩ := Int.eq_ofNat_of_zero_le h1
    obtain ⟨b, hb⟩ := Int.eq_ofNat_of_zero_le h3
    have hab : (cod p n v + v n * ((p ^ n : Nat) : Int)).toNat = a + b * p ^ n := by rw [ha, hb, ← Int.natCast_mul, ← Int.natCast_add, Int.toNat_natCast]
    have hlt : a < p ^ n := by omega
    have hpp : 1 ≤ p ^ n := Nat.pow_pos hp
    rw [hab]
    rcases Nat.eq_or_lt_of_le (show j ≤ n by omega) with e | e
    · subst e
      rw [hb, Nat.add_mul_div_right _ _ hpp, Nat.div_eq_of_lt hlt, Nat.zero_add, Nat.mod_eq_of_lt (by omega)]; rfl
    · rw [← ih j e, ha, Int.toNat_natCast]
      obtain ⟨c, rfl⟩ : ∃ c, n = j + (c + 1) := ⟨n - j - 1, by omega⟩
      rw [show b * p ^ (j + (c + 1)) = b * p ^ c * p * p ^ j by rw [Nat.pow_add, Nat.pow_succ]; ac_rfl, Nat.add_mul_div_right _ _ (Nat.pow_pos hp), Nat.add_mul_mod_self_right]

theorem dig_cod' {p m : Nat} {v : Vc} (hp : 1 ≤ p) (h : IsD p m v) : dig p m (cod p m v).toNat = v := by
  funext j
  unfold dig
  split
  · rw [dig_cod hp h.2 m j ‹_›]; have := (h.2 j).1; omega
  · exact (h.1 j (by omega)).symm

end Go.Proofs.Ytpphaicbdeeacaa
