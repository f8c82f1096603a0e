/- Plain mathematics for the Number laws: no program in sight. -/
namespace Go.Proofs.Ytdnmhjpeklaijaa
set_option linter.unusedVariables false
set_option linter.unusedSimpArgs false

theorem tmod_fix (a n : Int) (hn : 0 < n) : a % n = if a.tmod n < 0 then a.tmod n + n else a.tmod n := by
  have h5 := Int.tmod_lt_of_pos a (b := n) (by omega)
  have h6 := Int.lt_tmod_of_pos a (b := n) (by omega)
  have e : (a % n) = (a.tmod n % n) := by
    rw [Int.tmod_def]
    simp
  split
  · rw [e]
    rw [← Int.add_emod_right]
    exact Int.emod_eq_of_lt (by omega) (by omega)
  · rw [e]
    exact Int.emod_eq_of_lt (by omega) (by omega)

/-- What the extended Euclidean loop keeps. -/
structure HalfInv (a n r s u v : Int) : Prop where
  r0 : 0 ≤ r
  s0 : 0 ≤ s
  rn : r ≤ n
  sn : s ≤ n
  cr : n ∣ u * a - r
  cs : n ∣ v * a - s
  sz : u.natAbs * s + v.natAbs * r = n
  sg : (0 ≤ u ∧ v ≤ 0) ∨ (u ≤ 0 ∧ 0 ≤ v)
  gc : Int.gcd r s = Int.gcd a n
  ul : -n ≤ u ∧ u ≤ n
  vl : -n ≤ v ∧ v ≤ n

theorem HalfInv.start (a n : Int) (h0 : 0 ≤ a) (h : a < n) : HalfInv a n a n 1 0 where
  r0 := h0
  s0 := by omega
  rn := by omega
  sn := by omega
  cr := by simp
  cs := by simp
  sz := by simp
  sg := by omega
  gc := rfl
  ul := by omega
  vl := by omega

theorem HalfInv.lims {a n r s u v : Int} (h : HalfInv a n r s u v) (hs : 1 ≤ s) :
    -n ≤ u ∧ u ≤ n ∧ -n ≤ r / s * v ∧ r / s * v ≤ n ∧ 0 ≤ r / s * s ∧ r / s * s ≤ r := by
  have h0 := h.r0
  have hq : 0 ≤ r / s := Int.ediv_nonneg h0 (by omega)
  have h1 : r / s * s ≤ r := Int.ediv_mul_le r (by omega)
  have h2 : 0 ≤ r / s * s := Int.mul_nonneg hq (by omega)
  have hu : (u.natAbs : Int) ≤ u.natAbs * s := by
    have := Int.mul_le_mul_of_nonneg_left hs (show (0 : Int) ≤ u.natAbs by omega)
    omega
  have hv0 : (0 : Int) ≤ v.natAbs * r := Int.mul_nonneg (by omega) h0
  have hu0 : (0 : Int) ≤ u.natAbs * s := Int.mul_nonneg (by omega) (by omega)
  have hsz := h.sz
  have hqr : r / s ≤ r := Int.le_trans (by have := Int.mul_le_mul_of_nonneg_left hs hq; omega) h1
  have hqv : (v.natAbs : Int) * (r / s) ≤ v.natAbs * r := Int.mul_le_mul_of_nonneg_left hqr (by omega)
  have hqv0 : (0 : Int) ≤ v.natAbs * (r / s) := Int.mul_nonneg (by omega) hq
  have e : r / s * v = v.natAbs * (r / s) ∨ r / s * v = -(v.natAbs * (r / s)) := by
    rcases Int.le_total 0 v with hv | hv
    · left; rw [Int.natAbs_of_nonneg hv, Int.mul_comm]
    · right; rw [Int.ofNat_natAbs_of_nonpos hv, Int.neg_mul, Int.neg_neg, Int.mul_comm]
  refine ⟨by omega, by omega, ?_, ?_, h2, h1⟩ <;> rcases e with e | e <;> omega

/-- At the end. -/
theorem HalfInv.done {a n r u v : Int} (h : HalfInv a n r 0 u v) (hn : 1 ≤ n) (hlt : a < n) (h0 : 0 ≤ a) :
    r = Int.gcd a n ∧ 1 ≤ r ∧ r ∣ n ∧ -n ≤ u ∧ u ≤ n ∧ n ∣ u % (n / r) * a - r := by
  have hg : r = Int.gcd a n := by
    have := h.gc; rw [Int.gcd_zero_right] at this; rw [← this]; have := h.r0; omega
  have hr : 1 ≤ r := by
    have : Int.gcd a n ≠ 0 := by intro e; have := (Int.gcd_eq_zero_iff.1 e).2; omega
    omega
  have hd : r ∣ n := by rw [hg]; exact Int.gcd_dvd_right a n
  have hda : r ∣ a := by rw [hg]; exact Int.gcd_dvd_left a n
  obtain ⟨m, hm⟩ := hd
  obtain ⟨c, hc⟩ := hda
  have e1 : n / r = m := by rw [hm]; exact Int.mul_ediv_cancel_left _ (by omega)
  refine ⟨hg, hr, ⟨m, hm⟩, h.ul.1, h.ul.2, ?_⟩
  rw [e1]
  have e2 : u % m * a - r = (u * a - r) - n * (u / m * c) := by
    rw [Int.emod_def, Int.sub_mul]
    have : m * (u / m) * a = n * (u / m * c) := by
      rw [hm, hc]; simp only [Int.mul_assoc, Int.mul_comm, Int.mul_left_comm]
    omega
  rw [e2]
  exact Int.dvd_sub h.cr (Int.dvd_mul_right _ _)

theorem HalfInv.next {a n r s u v : Int} (h : HalfInv a n r s u v) (hs : 1 ≤ s) :
    HalfInv a n s (r - r / s * s) v (u - r / s * v) := by
  have hm : r - r / s * s = r % s := by rw [Int.emod_def, Int.mul_comm]
  have hq : 0 ≤ r / s := Int.ediv_nonneg h.r0 (by omega)
  have hsz : v.natAbs * (r - r / s * s) + (u - r / s * v).natAbs * s = n := by
    have e : ((u - r / s * v).natAbs : Int) = u.natAbs + v.natAbs * (r / s) := by
      rcases h.sg with ⟨hu, hv⟩ | ⟨hu, hv⟩
      · have h1 : r / s * v ≤ 0 := by
          have := Int.mul_nonneg hq (show 0 ≤ -v by omega); rw [Int.mul_neg] at this; omega
        rw [Int.natAbs_of_nonneg (by omega), Int.natAbs_of_nonneg hu, Int.ofNat_natAbs_of_nonpos hv, Int.neg_mul, Int.mul_comm v]; omega
      · have h1 : 0 ≤ r / s * v := Int.mul_nonneg hq hv
        rw [Int.ofNat_natAbs_of_nonpos (by omega), Int.ofNat_natAbs_of_nonpos hu, Int.natAbs_of_nonneg hv, Int.mul_comm v]; omega
    rw [e, Int.mul_sub, Int.add_mul, Int.mul_assoc (v.natAbs : Int)]
    have := h.sz; omega
  have hm0 : 0 ≤ r - r / s * s := by rw [hm]; exact Int.emod_nonneg _ (by omega)
  have hvl : -n ≤ u - r / s * v ∧ u - r / s * v ≤ n := by
    have h1 : ((u - r / s * v).natAbs : Int) ≤ (u - r / s * v).natAbs * s := by
      have := Int.mul_le_mul_of_nonneg_left hs (show (0 : Int) ≤ (u - r / s * v).natAbs by omega)
      omega
    have h2 : (0 : Int) ≤ v.natAbs * (r - r / s * s) := Int.mul_nonneg (by omega) hm0
    omega
  refine ⟨h.s0, hm0, h.sn, ?_, h.cs, ?_, hsz, ?_, ?_, h.vl, hvl⟩
  · rw [hm]; have := Int.emod_lt_of_pos r (b := s) (by omega); have := h.sn; omega
  · have := Int.dvd_sub h.cr (show n ∣ r / s * (v * a - s) from Int.dvd_trans h.cs (Int.dvd_mul_left _ _))
    have e : (u - r / s * v) * a - (r - r / s * s) = u * a - r - r / s * (v * a - s) := by
      rw [Int.sub_mul, Int.mul_sub, Int.mul_assoc]; omega
    rw [e]; exact this
  · rcases h.sg with ⟨hu, hv⟩ | ⟨hu, hv⟩
    · right
      have := Int.mul_nonneg hq (show 0 ≤ -v by omega); rw [Int.mul_neg] at this; omega
    · left
      have := Int.mul_nonneg hq hv; omega
  · rw [hm, ← h.gc, Int.gcd_comm r s]
    show Int.gcd s (r % s) = _
    rw [Int.gcd_comm s, Int.gcd_comm s, Int.emod_def, Int.sub_eq_add_neg, ← Int.mul_neg, Int.gcd_add_mul_left_left]

/-- What 'half' is handed back. -/
def HalfOut (a n g x : Int) : Prop := g = Int.gcd a n ∧ 1 ≤ g ∧ g ≤ n ∧ 0 ≤ x ∧ x < n / g ∧ n ∣ x * a - g

theorem dvd_of_mul_coprime {m x c : Int} (h : m ∣ x * c) (hc : Int.gcd c m = 1) : m ∣ x := by
  have h1 := Int.natAbs_dvd_natAbs.2 h
  rw [Int.natAbs_mul] at h1
  exact Int.natAbs_dvd_natAbs.1 (Nat.Coprime.dvd_of_dvd_mul_right (by rw [Nat.Coprime, Nat.gcd_comm]; exact hc) h1)

theorem HalfOut.uniq {a n g x g' x' : Int} (h : HalfOut a n g x) (h' : HalfOut a n g' x') : g = g' ∧ x = x' := by
  obtain ⟨e, g1, gn, x0, xl, d⟩ := h
  obtain ⟨e', _, _, x0', xl', d'⟩ := h'
  have hg : g = g' := e.trans e'.symm
  subst hg
  refine ⟨rfl, ?_⟩
  have hd : n ∣ (x - x') * a := by
    have := Int.dvd_sub d d'
    rw [show (x - x') * a = x * a - g - (x' * a - g) by rw [Int.sub_mul]; omega]
    exact this
  have hgn : g ∣ n := by rw [e]; exact Int.gcd_dvd_right a n
  have hga : g ∣ a := by rw [e]; exact Int.gcd_dvd_left a n
  obtain ⟨m, hm⟩ := hgn
  obtain ⟨c, hc⟩ := hga
  have em : n / g = m := by rw [hm]; exact Int.mul_ediv_cancel_left _ (by omega)
  have hcop : Int.gcd c m = 1 := by
    have h1 : Int.gcd (g * c) (g * m) = g.natAbs * Int.gcd c m := Int.gcd_mul_left g c m
    rw [← hc, ← hm] at h1
    have h2 : g.natAbs = Int.gcd a n := by omega
    rw [h2] at h1
    have h3 : 0 < Int.gcd a n := by omega
    exact (Nat.eq_of_mul_eq_mul_left h3 (by omega : Int.gcd a n * 1 = Int.gcd a n * Int.gcd c m)).symm
  have hmd : m ∣ (x - x') * c := by
    have : g * m ∣ g * ((x - x') * c) := by
      rw [← hm, show g * ((x - x') * c) = (x - x') * a by rw [hc]; simp only [Int.mul_left_comm]]
      exact hd
    exact Int.dvd_of_mul_dvd_mul_left (by omega) this
  have hmx : m ∣ x - x' := by
    exact dvd_of_mul_coprime hmd hcop
  rw [em] at xl xl'
  obtain ⟨k, hk⟩ := hmx
  have h1 : k < 1 := by
    apply Int.lt_of_mul_lt_mul_left (a := m) _ (by omega)
    omega
  have h2 : -1 < k := by
    apply Int.lt_of_mul_lt_mul_left (a := m) _ (by omega)
    omega
  have : k = 0 := by omega
  subst this
  omega

open Classical in
noncomputable def halfX (a n : Int) : Int := if h : ∃ x, HalfOut a n (Int.gcd a n) x then Classical.choose h else 0

theorem halfX_of {a n g x : Int} (h : HalfOut a n g x) : g = Int.gcd a n ∧ x = halfX a n := by
  have e := h.1
  refine ⟨e, ?_⟩
  rw [e] at h
  have hex : ∃ x, HalfOut a n (Int.gcd a n) x := ⟨x, h⟩
  unfold halfX
  rw [dif_pos hex]
  exact (h.uniq (Classical.choose_spec hex)).2

/-- The spec of Inverse: value and error. -/
noncomputable def inverseS (a n : Int) : Int × Int :=
  if 1 ≤ n ∧ n ≤ 2147483647 then (if Int.gcd (a % n) n = 1 then (halfX (a % n) n, 0) else (0, 11)) else (0, 6)

/-- The spec of Power. -/
def powerS (a e n : Int) : Int × Int :=
  if 1 ≤ n ∧ n ≤ 2147483647 ∧ 0 ≤ e then (a ^ e.toNat % n, 0) else (0, 6)

theorem pow_emod_ (a n : Int) (k : Nat) : (a % n) ^ k % n = a ^ k % n := by
  induction k with
  | zero => simp
  | succ k ih => rw [Int.pow_succ, Int.pow_succ, Int.mul_emod, ih, Int.emod_emod_of_dvd _ (Int.dvd_refl n), ← Int.mul_emod]

theorem powStep_even (o a n : Int) (k : Nat) : o * (a * a % n) ^ k % n = o * a ^ (2 * k) % n := by
  rw [Int.mul_emod, pow_emod_, ← Int.mul_emod, Int.pow_mul, Int.pow_succ, Int.pow_one]

theorem powStep_odd (o a n : Int) (k : Nat) : o * a % n * (a * a % n) ^ k % n = o * a ^ (2 * k + 1) % n := by
  rw [powStep_even, Int.mul_emod, Int.emod_emod_of_dvd _ (Int.dvd_refl n), ← Int.mul_emod, Int.mul_assoc, Int.pow_succ, Int.mul_comm a]

def small (a : Int) : Prop := -2147483647 ≤ a ∧ a ≤ 2147483647
instance (a : Int) : Decidable (small a) := by unfold small; infer_instance

def gcdS (a b : Int) : Int × Int := if small a ∧ small b then (((Int.gcd a b : Nat) : Int), 0) else (0, 6)

/-- The spec of Bezout: g, x, y, error. -/
noncomputable def bezS (a b : Int) : Int × Int × Int × Int :=
  if small a ∧ small b then
    (if b = 0 then (if 0 < a then (a, 1, 0, 0) else if a < 0 then (-a, -1, 0, 0) else (0, 0, 0, 0))
     else (((Int.gcd (a % (b.natAbs : Int)) (b.natAbs : Int) : Nat) : Int), halfX (a % (b.natAbs : Int)) b.natAbs,
        (((Int.gcd (a % (b.natAbs : Int)) (b.natAbs : Int) : Nat) : Int) - a * halfX (a % (b.natAbs : Int)) b.natAbs).tdiv b, 0))
  else (0, 0, 0, 6)

/-- There always is what 'half' is handed back. -/
theorem halfX_out {a n : Int} (h0 : 0 ≤ a) (h1 : a < n) : HalfOut a n (Int.gcd a n) (halfX a n) := by
  have key : ∀ (k : Nat) (r s u v : Int), s.toNat ≤ k → HalfInv a n r s u v → ∃ x, HalfOut a n (Int.gcd a n) x := by
    intro k
    induction k with
    | zero =>
      intro r s u v hs h
      have hs0 := h.s0
      have : s = 0 := by omega
      subst this
      obtain ⟨c1, c2, c3, c4, c5, c6⟩ := h.done (by omega) h1 h0
      have hq : 1 ≤ n / r := by
        obtain ⟨m, hm⟩ := c3
        rw [hm, Int.mul_ediv_cancel_left _ (by omega)]
        have := Int.pos_of_mul_pos_right (by omega : 0 < r * m) (by omega)
        omega
      have e0 := Int.emod_nonneg u (b := n / r) (by omega)
      have e1 := Int.emod_lt_of_pos u (b := n / r) (by omega)
      have e2 := h.rn
      refine ⟨u % (n / r), ?_⟩
      rw [← c1]
      exact ⟨c1, c2, e2, e0, e1, c6⟩
    | succ k ih =>
      intro r s u v hs h
      by_cases hz : s = 0
      · exact ih r s u v (by omega) h
      · have hs0 := h.s0
        have hm : r - r / s * s = r % s := by rw [Int.emod_def, Int.mul_comm]
        have := Int.emod_lt_of_pos r (b := s) (by omega)
        exact ih _ _ _ _ (by omega) (h.next (by omega))
  have hex := key n.toNat a n 1 0 (Nat.le_refl _) (HalfInv.start a n h0 h1)
  unfold halfX
  rw [dif_pos hex]
  exact Classical.choose_spec hex

theorem halfX_lims {a n : Int} (h0 : 0 ≤ a) (h1 : a < n) : 1 ≤ (Int.gcd a n : Int) ∧ (Int.gcd a n : Int) ≤ n ∧ 0 ≤ halfX a n ∧ halfX a n < n := by
  obtain ⟨_, h2, h3, h4, h5, _⟩ := halfX_out h0 h1
  have := Int.ediv_le_self (a := n) (Int.gcd a n) (by omega)
  exact ⟨h2, h3, h4, by omega⟩

/-- The spec of Exp. -/
def expS (q k most : Int) : Int × Int :=
  if q < 0 ∨ k < 0 ∨ most < 0 then (0, 6) else if q ^ k.toNat ≤ most then (q ^ k.toNat, 0) else (0, 8)

/-! ### The least divisor -/
def ldGo (n : Nat) : Nat → Nat → Nat
  | 0, d => d
  | f + 1, d => if n % d = 0 then d else ldGo n f (d + 1)
/-- The least divisor of n that is at least 2 (for n from 2 on). -/
def ld (n : Nat) : Nat := ldGo n (n - 2) 2

def NoDiv (n b : Nat) : Prop := ∀ d, 2 ≤ d → d < b → n % d ≠ 0
def IsLeast (n r : Nat) : Prop := 2 ≤ r ∧ n % r = 0 ∧ NoDiv n r

theorem ldGo_least (n : Nat) : ∀ (f d : Nat), 2 ≤ d → d + f = n → NoDiv n d → IsLeast n (ldGo n f d) := by
  intro f
  induction f with
  | zero =>
    intro d h2 hn hd
    simp only [ldGo]
    obtain rfl : d = n := by omega
    exact ⟨h2, Nat.mod_self _, hd⟩
  | succ f ih =>
    intro d h2 hn hd
    simp only [ldGo]
    split
    · exact ⟨h2, by assumption, hd⟩
    · refine ih (d + 1) (by omega) (by omega) fun x hx hx' => ?_
      by_cases e : x = d
      · subst e; assumption
      · exact hd x hx (by omega)

theorem ld_least {n : Nat} (h : 2 ≤ n) : IsLeast n (ld n) :=
  ldGo_least n (n - 2) 2 (by omega) (by omega) (fun d _ _ => by omega)

theorem IsLeast.uniq {n r s : Nat} (h : IsLeast n r) (k : IsLeast n s) : r = s := by
  rcases Nat.lt_trichotomy r s with h1 | h1 | h1
  · exact absurd h.2.1 (k.2.2 r h.1 h1)
  · exact h1
  · exact absurd k.2.1 (h.2.2 s k.1 h1)

theorem ld_eq {n r : Nat} (h2 : 2 ≤ n) (h : IsLeast n r) : ld n = r := (ld_least h2).uniq h

/-- No divisor up to a d whose square is beyond n: n is its own least divisor. -/
theorem least_self {n d : Nat} (h2 : 2 ≤ n) (h : NoDiv n d) (hd : n < d * d) : IsLeast n n := by
  refine ⟨h2, Nat.mod_self n, fun x hx hxn hm => ?_⟩
  have hdx : d ≤ x := by
    rcases Nat.lt_or_ge x d with h1 | h1
    · exact absurd hm (h x hx h1)
    · exact h1
  obtain ⟨y, hy⟩ := Nat.dvd_of_mod_eq_zero hm
  have hy2 : 2 ≤ y := by
    rcases Nat.lt_or_ge y 2 with h1 | h1
    · have : y = 0 ∨ y = 1 := by omega
      rcases this with e | e <;> subst e <;> omega
    · exact h1
  have hyd : d ≤ y := by
    rcases Nat.lt_or_ge y d with h1 | h1
    · exact absurd (by rw [hy]; exact Nat.mul_mod_left x y) (h y hy2 h1)
    · exact h1
  have := Nat.mul_le_mul hdx hyd
  omega

theorem NoDiv.mono {n a b : Nat} (h : NoDiv n a) (hb : b ≤ a) : NoDiv n b := fun d h1 h2 => h d h1 (by omega)

/-- The wheel: from one candidate to the next. -/
theorem NoDiv.wheel {n a b : Nat} (h : NoDiv n a) (h2 : n % 2 ≠ 0) (h3 : n % 3 ≠ 0) (h5 : n % 5 ≠ 0)
    (hg : ∀ d, a ≤ d → d < b → d % 2 = 0 ∨ d % 3 = 0 ∨ d % 5 = 0) : NoDiv n b := by
  intro d hd hdb hm
  rcases Nat.lt_or_ge d a with h1 | h1
  · exact h d hd h1 hm
  · have hdv := Nat.dvd_of_mod_eq_zero hm
    rcases hg d h1 hdb with e | e | e
    · exact h2 (Nat.mod_eq_zero_of_dvd (Nat.dvd_trans (Nat.dvd_of_mod_eq_zero e) hdv))
    · exact h3 (Nat.mod_eq_zero_of_dvd (Nat.dvd_trans (Nat.dvd_of_mod_eq_zero e) hdv))
    · exact h5 (Nat.mod_eq_zero_of_dvd (Nat.dvd_trans (Nat.dvd_of_mod_eq_zero e) hdv))

theorem NoDiv.succ {n a : Nat} (h : NoDiv n a) (ha : n % a ≠ 0) : NoDiv n (a + 1) := fun d h1 h2 hm => by
  by_cases e : d = a
  · subst e; exact ha hm
  · exact h d h1 (by omega) hm

/-! ### The prime powers -/
def multGo : Nat → Nat → Nat → Nat
  | 0, _, _ => 0
  | f + 1, p, n => if n % p = 0 then multGo f p (n / p) + 1 else 0
/-- How often p divides n (p from 2, n from 1 on). -/
def mult (p n : Nat) : Nat := multGo n p n

theorem multGo_fuel {p : Nat} (hp : 2 ≤ p) : ∀ (f g n : Nat), 1 ≤ n → n ≤ f → n ≤ g → multGo f p n = multGo g p n := by
  intro f
  induction f with
  | zero => intro g n h1 h2 h3; omega
  | succ f ih =>
    intro g n h1 h2 h3
    cases g with
    | zero => omega
    | succ g =>
      simp only [multGo]
      split
      · rename_i hm
        have hlt : n / p < n := Nat.div_lt_self (by omega) (by omega)
        have hpos : 1 ≤ n / p := by
          have := Nat.div_add_mod n p
          rcases Nat.eq_zero_or_pos (n / p) with e | e
          · rw [e, hm] at this; simp at this; omega
          · exact e
        rw [ih g (n / p) hpos (by omega) (by omega)]
      · rfl

theorem mult_step {p n : Nat} (hp : 2 ≤ p) (hn : 1 ≤ n) (hm : n % p = 0) : mult p n = mult p (n / p) + 1 ∧ 1 ≤ n / p ∧ n / p < n := by
  have hlt : n / p < n := Nat.div_lt_self (by omega) (by omega)
  have hpos : 1 ≤ n / p := by
    have := Nat.div_add_mod n p
    rcases Nat.eq_zero_or_pos (n / p) with e | e
    · rw [e, hm] at this; simp at this; omega
    · exact e
  refine ⟨?_, hpos, hlt⟩
  unfold mult
  rw [show multGo n p n = multGo ((n - 1) + 1) p n by rw [Nat.sub_add_cancel hn]]
  simp only [multGo]
  rw [if_pos hm, multGo_fuel hp (n - 1) (n / p) (n / p) hpos (by omega) (by omega)]

theorem mult_zero {p n : Nat} (hm : n % p ≠ 0) : mult p n = 0 := by
  unfold mult
  cases n with
  | zero => simp at hm
  | succ n => simp only [multGo]; rw [if_neg hm]

/-- n without its powers of p. -/
def strip (p n : Nat) : Nat := n / p ^ mult p n

theorem strip_step {p n : Nat} (hp : 2 ≤ p) (hn : 1 ≤ n) (hm : n % p = 0) : strip p n = strip p (n / p) := by
  unfold strip
  rw [(mult_step hp hn hm).1, Nat.pow_succ, Nat.mul_comm, Nat.div_div_eq_div_mul]

theorem strip_zero {p n : Nat} (hm : n % p ≠ 0) : strip p n = n := by
  unfold strip
  rw [mult_zero hm]; simp

theorem strip_lt {p n : Nat} (hp : 2 ≤ p) (hn : 1 ≤ n) (hm : n % p = 0) : strip p n < n := by
  unfold strip
  refine Nat.div_lt_self (by omega) ?_
  rw [(mult_step hp hn hm).1, Nat.pow_succ]
  have := Nat.pow_pos (n := mult p (n / p)) (show 0 < p by omega)
  have := Nat.mul_le_mul this hp
  omega

def facGo : Nat → Nat → List (Nat × Nat)
  | 0, _ => []
  | f + 1, n => if n ≤ 1 then [] else (ld n, mult (ld n) n) :: facGo f (strip (ld n) n)
/-- The prime powers of n. -/
def facs (n : Nat) : List (Nat × Nat) := facGo n n

theorem facGo_fuel : ∀ (f g n : Nat), n ≤ f → n ≤ g → facGo f n = facGo g n := by
  intro f
  induction f with
  | zero => intro g n h1 h2; obtain rfl : n = 0 := by omega
            cases g <;> simp [facGo]
  | succ f ih =>
    intro g n h1 h2
    cases g with
    | zero => obtain rfl : n = 0 := by omega
              simp [facGo]
    | succ g =>
      simp only [facGo]
      split
      · rfl
      · have hl := ld_least (n := n) (by omega)
        have := strip_lt hl.1 (by omega) hl.2.1
        rw [ih g _ (by omega) (by omega)]

theorem facs_cons {n : Nat} (hn : 2 ≤ n) : facs n = (ld n, mult (ld n) n) :: facs (strip (ld n) n) := by
  unfold facs
  have hl := ld_least hn
  have := strip_lt hl.1 (by omega) hl.2.1
  rw [show facGo n n = facGo ((n - 1) + 1) n by rw [Nat.sub_add_cancel (by omega)]]
  simp only [facGo]
  rw [if_neg (by omega), facGo_fuel (n - 1) (strip (ld n) n) _ (by omega) (by omega)]

theorem facs_one {n : Nat} (hn : n ≤ 1) : facs n = [] := by
  unfold facs
  cases n with
  | zero => rfl
  | succ n => simp only [facGo]; rw [if_pos hn]

theorem strip_pos {p : Nat} (hp : 2 ≤ p) : ∀ (n : Nat), 1 ≤ n → 1 ≤ strip p n := by
  intro n
  induction n using Nat.strongRecOn with
  | _ n ih =>
    intro hn
    by_cases hm : n % p = 0
    · obtain ⟨_, h2, h3⟩ := mult_step hp hn hm
      rw [strip_step hp hn hm]
      exact ih _ h3 h2
    · rw [strip_zero hm]; exact hn

theorem strip_le {p n : Nat} (hp : 2 ≤ p) (hn : 1 ≤ n) (hm : n % p = 0) : p * strip p n ≤ n := by
  rw [strip_step hp hn hm]
  have h1 : strip p (n / p) ≤ n / p := Nat.div_le_self _ _
  have h2 := Nat.mul_le_mul_left p h1
  have h3 := Nat.mul_div_le n p
  omega

theorem pow_len {k m n : Nat} (h : 2 ^ k * m ≤ n) (hm : 1 ≤ m) (hn : n ≤ 2147483647) : k ≤ 30 := by
  rcases Nat.lt_or_ge 30 k with h1 | h1
  · have h2 : 2 ^ 31 ≤ 2 ^ k := Nat.pow_le_pow_right (by omega) h1
    have h3 := Nat.mul_le_mul_left (2 ^ k) hm
    omega
  · exact h1

theorem mult_lt {p : Nat} (hp : 2 ≤ p) : ∀ (n : Nat), 1 ≤ n → mult p n < n := by
  intro n
  induction n using Nat.strongRecOn with
  | _ n ih =>
    intro hn
    by_cases hm : n % p = 0
    · obtain ⟨h1, h2, h3⟩ := mult_step hp hn hm
      have := ih _ h3 h2
      omega
    · rw [mult_zero hm]; exact hn

example : facs 360 = [(2, 3), (3, 2), (5, 1)] := by decide

/-- Euler's function as the program computes it. -/
def phiGo : Nat → List (Nat × Nat) → Nat
  | n, [] => n
  | n, x :: l => phiGo (n / x.1 * (x.1 - 1)) l
def phi (n : Nat) : Nat := phiGo n (facs n)

theorem phiGo_append (n : Nat) (l : List (Nat × Nat)) (x : Nat × Nat) : phiGo n (l ++ [x]) = phiGo n l / x.1 * (x.1 - 1) := by
  induction l generalizing n with
  | nil => rfl
  | cons y l ih => simp only [List.cons_append, phiGo]; exact ih _

theorem phiGo_le (n : Nat) (l : List (Nat × Nat)) : phiGo n l ≤ n := by
  induction l generalizing n with
  | nil => exact Nat.le_refl _
  | cons x l ih =>
    simp only [phiGo]
    refine Nat.le_trans (ih _) ?_
    have h1 := Nat.div_mul_le_self n x.1
    have h2 := Nat.mul_le_mul_left (n / x.1) (Nat.sub_le x.1 1)
    omega

/-- All entries are at least 2. -/
theorem facs_ge (n : Nat) : ∀ x ∈ facs n, 2 ≤ x.1 ∧ 1 ≤ x.2 ∧ x.1 ≤ n := by
  induction n using Nat.strongRecOn with
  | _ n ih =>
    intro x hx
    by_cases h : n ≤ 1
    · rw [facs_one h] at hx; cases hx
    · rw [facs_cons (by omega)] at hx
      have hl := ld_least (n := n) (by omega)
      have hs := strip_lt hl.1 (by omega) hl.2.1
      rcases List.mem_cons.1 hx with rfl | hx
      · exact ⟨hl.1, by rw [(mult_step hl.1 (by omega) hl.2.1).1]; omega, Nat.le_of_dvd (by omega) (Nat.dvd_of_mod_eq_zero hl.2.1)⟩
      · obtain ⟨h1, h2, h3⟩ := ih _ hs x hx
        exact ⟨h1, h2, by omega⟩

theorem facs_exp_le (n : Nat) : ∀ x ∈ facs n, x.2 ≤ n := by
  induction n using Nat.strongRecOn with
  | _ n ih =>
    intro x hx
    by_cases h : n ≤ 1
    · rw [facs_one h] at hx; cases hx
    · rw [facs_cons (by omega)] at hx
      have hl := ld_least (n := n) (by omega)
      have hs := strip_lt hl.1 (by omega) hl.2.1
      rcases List.mem_cons.1 hx with rfl | hx
      · exact Nat.le_of_lt (mult_lt hl.1 n (by omega))
      · have := ih _ hs x hx; omega

theorem take_snoc_ {α : Type} {l : List α} {k : Nat} {x : α} (h : l[k]? = some x) : l.take (k + 1) = l.take k ++ [x] := by
  obtain ⟨hk, rfl⟩ := List.getElem?_eq_some_iff.1 h
  rw [List.take_succ_eq_append_getElem hk]

/-- The value of the Moebius function as the program computes it. -/
def moeGo : Int → List (Nat × Nat) → Int
  | o, [] => o
  | o, x :: l => if 1 < x.2 then 0 else moeGo (-o) l
def moe (n : Nat) : Int := moeGo 1 (facs n)

/-- The spec of PrimePower. -/
def ppL : List (Nat × Nat) → Int × Int × Int
  | [x] => ((x.1 : Int), (x.2 : Int), 0)
  | _ => (0, 0, 11)
def ppS (n : Int) : Int × Int × Int :=
  if 1 ≤ n ∧ n ≤ 2147483647 then ppL (facs n.toNat) else (0, 0, 6)
theorem ppL_no (l : List (Nat × Nat)) (h : l.length ≠ 1) : ppL l = (0, 0, 11) := by
  match l, h with
  | [], _ => rfl
  | x :: y :: l, _ => rfl
  | [x], h => simp at h

/-- The order as the program computes it: e rounds at one prime p. -/
def ordIn (a n : Int) (p : Nat) : Nat → Nat → Nat
  | 0, k => k
  | e + 1, k => if a ^ (k / p) % n = 1 % n then ordIn a n p e (k / p) else k
def ordL (a n : Int) : List (Nat × Nat) → Nat → Nat
  | [], k => k
  | x :: l, k => ordL a n l (ordIn a n x.1 x.2 k)
/-- The order of a number with an inverse. -/
def ordP (a n : Int) : Nat := ordL a n (facs (phi n.toNat)) (phi n.toNat)

theorem ordIn_le (a n : Int) (p : Nat) : ∀ e k, ordIn a n p e k ≤ k
  | 0, k => Nat.le_refl _
  | e + 1, k => by
    simp only [ordIn]
    split
    · exact Nat.le_trans (ordIn_le a n p e _) (Nat.div_le_self _ _)
    · exact Nat.le_refl _

theorem ordL_append (a n : Int) (x : Nat × Nat) : ∀ (l : List (Nat × Nat)) (k : Nat), ordL a n (l ++ [x]) k = ordIn a n x.1 x.2 (ordL a n l k)
  | [], k => rfl
  | y :: l, k => by simp only [List.cons_append, ordL]; exact ordL_append a n x l _

theorem ordL_le (a n : Int) : ∀ (l : List (Nat × Nat)) (k : Nat), ordL a n l k ≤ k
  | [], k => Nat.le_refl _
  | x :: l, k => Nat.le_trans (ordL_le a n l _) (ordIn_le a n _ _ _)

/-- Rounds from the front. -/
theorem ordIn_yes {a n : Int} {p e k : Nat} (h : a ^ (k / p) % n = 1 % n) : ordIn a n p (e + 1) k = ordIn a n p e (k / p) := by simp only [ordIn]; rw [if_pos h]
theorem ordIn_no {a n : Int} {p e k : Nat} (h : ¬ a ^ (k / p) % n = 1 % n) : ordIn a n p e k = k := by
  cases e with
  | zero => rfl
  | succ e => simp only [ordIn]; rw [if_neg h]

theorem mult_strip {p : Nat} (hp : 2 ≤ p) : ∀ (n : Nat), 1 ≤ n → p ^ mult p n * strip p n = n := by
  intro n
  induction n using Nat.strongRecOn with
  | _ n ih =>
    intro hn
    by_cases hm : n % p = 0
    · obtain ⟨h1, h2, h3⟩ := mult_step hp hn hm
      rw [h1, strip_step hp hn hm, Nat.pow_succ, Nat.mul_right_comm, ih _ h3 h2]
      exact Nat.div_mul_cancel (Nat.dvd_of_mod_eq_zero hm)
    · rw [mult_zero hm, strip_zero hm]; simp

def primesOf : List (Nat × Nat) → Nat
  | [] => 1
  | x :: l => x.1 * primesOf l

theorem phiGo_pos : ∀ (l : List (Nat × Nat)) (m : Nat), (∀ x ∈ l, 2 ≤ x.1) → 1 ≤ m → primesOf l ∣ m → 1 ≤ phiGo m l
  | [], m, _, h, _ => h
  | x :: l, m, h2, h, hd => by
    simp only [phiGo]
    have hx := h2 x (List.mem_cons_self ..)
    obtain ⟨t, ht⟩ := hd
    simp only [primesOf] at ht
    have e : m / x.1 = primesOf l * t := by rw [ht, Nat.mul_assoc]; exact Nat.mul_div_cancel_left _ (by omega)
    have ht0 : 1 ≤ primesOf l * t := by
      rcases Nat.eq_zero_or_pos (primesOf l * t) with h0 | h0
      · rw [Nat.mul_assoc, h0] at ht; omega
      · exact h0
    refine phiGo_pos l _ (fun y hy => h2 y (List.mem_cons_of_mem _ hy)) ?_ ?_
    · rw [e]; exact Nat.mul_pos ht0 (by omega)
    · rw [e, Nat.mul_assoc]; exact Nat.dvd_mul_right _ _

theorem primesOf_dvd (n : Nat) : 1 ≤ n → primesOf (facs n) ∣ n := by
  induction n using Nat.strongRecOn with
  | _ n ih =>
    intro hn
    by_cases h : n ≤ 1
    · rw [facs_one h]; exact Nat.one_dvd _
    · rw [facs_cons (by omega)]
      have hl := ld_least (n := n) (by omega)
      have hs := strip_lt hl.1 (by omega) hl.2.1
      have hsp := strip_pos (p := ld n) hl.1 n (by omega)
      simp only [primesOf]
      have h1 := mult_strip hl.1 n (by omega)
      have h2 := ih _ hs hsp
      have h3 := (mult_step hl.1 (by omega) hl.2.1).1
      rw [h3, Nat.pow_succ] at h1
      have : ld n * primesOf (facs (strip (ld n) n)) ∣ ld n ^ mult (ld n) (n / ld n) * (ld n * strip (ld n) n) :=
        Nat.dvd_trans (Nat.mul_dvd_mul_left _ h2) (Nat.dvd_mul_left _ _)
      rw [← Nat.mul_assoc, h1] at this
      exact this

theorem phi_pos {n : Nat} (h : 1 ≤ n) : 1 ≤ phi n :=
  phiGo_pos _ _ (fun x hx => (facs_ge n x hx).1) h (primesOf_dvd n h)

def prodL : List Int → Int
  | [] => 1
  | x :: l => x * prodL l
/-- The spec of Product. -/
def prodS (m : Int) (l : List Int) : Int × Int :=
  if (decide (m < 0) || l.any fun x => decide (x < 0)) = true then (0, 6) else if (l.any (· == 0)) = true then (0, 0) else if prodL l ≤ m then (prodL l, 0) else (0, 8)

theorem prodL_append : ∀ (l k : List Int), prodL (l ++ k) = prodL l * prodL k
  | [], k => by simp [prodL]
  | x :: l, k => by simp only [List.cons_append, prodL]; rw [prodL_append l k, Int.mul_assoc]
theorem prodL_pos : ∀ (l : List Int), (∀ x ∈ l, 1 ≤ x) → 1 ≤ prodL l
  | [], _ => by simp [prodL]
  | x :: l, h => by
    simp only [prodL]
    have h1 := h x (List.mem_cons_self ..)
    have h2 := prodL_pos l fun y hy => h y (List.mem_cons_of_mem _ hy)
    have := Int.mul_pos (show 0 < x by omega) (show 0 < prodL l by omega)
    omega
theorem prodL_take_le (l : List Int) (k : Nat) (h : ∀ x ∈ l, 1 ≤ x) : prodL (l.take k) ≤ prodL l := by
  have h1 : prodL l = prodL (l.take k) * prodL (l.drop k) := by rw [← prodL_append, List.take_append_drop]
  have h2 := prodL_pos (l.take k) fun x hx => h x (List.mem_of_mem_take hx)
  have h3 := prodL_pos (l.drop k) fun x hx => h x (List.mem_of_mem_drop hx)
  have h4 : prodL (l.take k) * 1 ≤ prodL (l.take k) * prodL (l.drop k) := Int.mul_le_mul_of_nonneg_left h3 (by omega)
  omega
theorem all_pos_of {l : List Int} (h1 : (l.any fun x => decide (x < 0)) = false) (h2 : (l.any (· == 0)) = false) : ∀ x ∈ l, 1 ≤ x := by
  intro x hx
  rw [List.any_eq_false] at h1 h2
  have a := h1 x hx
  have b := h2 x hx
  simp at a b
  omega
theorem lt_of_div_lt {o m x : Int} (hx : 1 ≤ x) (h : m / x < o) : m < o * x := Int.lt_mul_of_ediv_lt (by omega) h
theorem le_of_le_div {o m x : Int} (hx : 1 ≤ x) (h : o ≤ m / x) : o * x ≤ m := by
  have h1 := Int.mul_le_mul_of_nonneg_right h (show 0 ≤ x by omega)
  have h2 := Int.ediv_mul_le m (b := x) (by omega)
  omega

/-- One step of the Chinese remainder algorithm. -/
noncomputable def chinT (x d r m : Int) : Int := (r - x) % m * halfX (d % m) m % m
noncomputable def chinGo : List Int → List Int → Int → Int → Option (Int × Int)
  | r :: rs, m :: ms, x, d => if Int.gcd (d % m) m = 1 then chinGo rs ms (x + d * chinT x d r m) (d * m) else none
  | _, _, x, d => some (x, d)
noncomputable def chinO : Option (Int × Int) → Int × Int × Int
  | some (x, d) => (x, d, 0)
  | none => (0, 0, 11)
def inN (m : Int) : Bool := decide (1 ≤ m ∧ m ≤ 2147483647)
/-- The spec of Chinese. -/
noncomputable def chinS (rs ms : List Int) : Int × Int × Int :=
  if rs.length ≠ ms.length then (0, 0, 10)
  else if ms.all inN = false then (0, 0, 6)
  else if 2147483647 < prodL ms then (0, 0, 8)
  else chinO (chinGo rs ms 0 1)

theorem chinGo_nil {rs : List Int} {x d : Int} : chinGo rs [] x d = some (x, d) := by cases rs <;> rfl

theorem chinT_lim {x d r m : Int} (hm : 1 ≤ m) : 0 ≤ chinT x d r m ∧ chinT x d r m < m := ⟨Int.emod_nonneg _ (by omega), Int.emod_lt_of_pos _ (by omega)⟩

theorem chin_step_lim {x d t m : Int} (h0 : 0 ≤ x) (h1 : x < d) (ht : 0 ≤ t) (htm : t < m) : 0 ≤ d * t ∧ x + d * t < d * m := by
  have h2 := Int.mul_nonneg (show 0 ≤ d by omega) ht
  have h3 : d * (t + 1) ≤ d * m := Int.mul_le_mul_of_nonneg_left (by omega) (by omega)
  rw [Int.mul_add, Int.mul_one] at h3
  omega

/-! ### Binomial coefficients -/
def choose : Nat → Nat → Nat
  | _, 0 => 1
  | 0, _ + 1 => 0
  | n + 1, k + 1 => choose n k + choose n (k + 1)

theorem choose_zero (n : Nat) : choose n 0 = 1 := by cases n <;> rfl
theorem choose_succ (n k : Nat) : choose (n + 1) (k + 1) = choose n k + choose n (k + 1) := rfl
theorem choose_big : ∀ (n k : Nat), n < k → choose n k = 0
  | _, 0, h => by omega
  | 0, k + 1, _ => rfl
  | n + 1, k + 1, h => by rw [choose_succ, choose_big n k (by omega), choose_big n (k + 1) (by omega)]
theorem choose_self : ∀ n, choose n n = 1
  | 0 => rfl
  | n + 1 => by rw [choose_succ, choose_self n, choose_big n (n + 1) (by omega)]

/-- (k+1) C(n+1, k+1) = (n+1) C(n, k). -/
theorem choose_mul : ∀ (n k : Nat), (k + 1) * choose (n + 1) (k + 1) = (n + 1) * choose n k
  | 0, 0 => rfl
  | 0, k + 1 => by simp [choose]
  | n + 1, 0 => by
    have ih := choose_mul n 0
    rw [choose_zero] at ih
    rw [choose_succ (n + 1) 0, choose_zero]
    omega
  | n + 1, k + 1 => by
    have h1 := choose_mul n k
    have h2 := choose_mul n (k + 1)
    rw [choose_succ (n + 1) (k + 1), Nat.mul_add, h2]
    have h3 := choose_succ n k
    have h4 : (k + 1 + 1) * choose (n + 1) (k + 1) = (k + 1) * choose (n + 1) (k + 1) + choose (n + 1) (k + 1) := by rw [Nat.add_mul]; omega
    rw [h4, h1, h3]
    rw [Nat.add_mul (n + 1) 1, Nat.mul_add (n + 1)]
    omega

theorem choose_pos : ∀ (n k : Nat), k ≤ n → 1 ≤ choose n k
  | n, 0, _ => by rw [choose_zero]; exact Nat.le_refl _
  | 0, k + 1, h => by omega
  | n + 1, k + 1, h => by have := choose_pos n k (by omega); rw [choose_succ]; omega

/-- One step of the loop. -/
theorem choose_step (m i : Nat) : choose (m + (i + 1)) (i + 1) * (i + 1) = choose (m + i) i * (m + (i + 1)) := by
  have := choose_mul (m + i) i
  rw [show m + (i + 1) = m + i + 1 by omega, Nat.mul_comm, this, Nat.mul_comm]

theorem choose_mono (m : Nat) : ∀ (i j : Nat), i ≤ j → choose (m + i) i ≤ choose (m + j) j := by
  intro i j h
  induction j with
  | zero => obtain rfl : i = 0 := by omega
            exact Nat.le_refl _
  | succ j ih =>
    by_cases e : i = j + 1
    · rw [e]; exact Nat.le_refl _
    · refine Nat.le_trans (ih (by omega)) ?_
      rw [show m + (j + 1) = m + j + 1 by omega, choose_succ]
      omega

theorem choose_two (m : Nat) : ∀ (i : Nat), i ≤ m → 2 ^ i ≤ choose (m + i) i := by
  intro i
  induction i with
  | zero => intro _; rw [choose_zero]; exact Nat.le_refl _
  | succ i ih =>
    intro h
    have h1 := ih (by omega)
    have h2 := choose_step m i
    have h3 : choose (m + i) i * (2 * (i + 1)) ≤ choose (m + i) i * (m + (i + 1)) := Nat.mul_le_mul_left _ (by omega)
    rw [← h2, ← Nat.mul_assoc] at h3
    have h4 : choose (m + i) i * 2 ≤ choose (m + (i + 1)) (i + 1) := Nat.le_of_mul_le_mul_right h3 (by omega)
    rw [Nat.pow_succ]
    omega

/-- Symmetry. -/
theorem choose_symm : ∀ (a b : Nat), choose (a + b) a = choose (a + b) b
  | 0, b => by rw [choose_zero, Nat.zero_add, choose_self]
  | a + 1, 0 => by rw [choose_zero, Nat.add_zero, choose_self]
  | a + 1, b + 1 => by
    have h1 := choose_symm a (b + 1)
    have h2 := choose_symm (a + 1) b
    rw [show a + 1 + (b + 1) = a + (b + 1) + 1 by omega, choose_succ, choose_succ, h1, show a + (b + 1) = a + 1 + b by omega, h2]
    omega

/-- The spec of Choose. -/
def chooseS (n k m : Int) : Int × Int :=
  if n < 0 ∨ k < 0 ∨ m < 0 then (0, 6) else if n < k then (0, 0)
  else if (choose n.toNat k.toNat : Int) ≤ m then ((choose n.toNat k.toNat : Nat), 0) else (0, 8)

/-- At the lesser of k and n - k. -/
theorem choose_min (n k : Nat) (h : k ≤ n) : choose n k = choose (n - min k (n - k) + min k (n - k)) (min k (n - k)) := by
  rw [Nat.sub_add_cancel (by omega)]
  rcases Nat.le_total k (n - k) with e | e
  · rw [Nat.min_eq_left e]
  · rw [Nat.min_eq_right e]
    have := choose_symm k (n - k)
    rw [show k + (n - k) = n by omega] at this
    exact this

/-! ### The reference's inverse -/
theorem HalfInv.start2 (a n : Int) (h0 : 0 ≤ a) (h : a < n) : HalfInv a n n a 0 1 where
  r0 := by omega
  s0 := h0
  rn := by omega
  sn := by omega
  cr := by simp
  cs := by simp
  sz := by simp
  sg := by omega
  gc := Int.gcd_comm n a
  ul := by omega
  vl := by omega

theorem HalfInv.out {a n r u v : Int} (h : HalfInv a n r 0 u v) (hn : 1 ≤ n) (hlt : a < n) (h0 : 0 ≤ a) : r = Int.gcd a n ∧ u % (n / r) = halfX a n := by
  obtain ⟨c1, c2, c3, c4, c5, c6⟩ := h.done hn hlt h0
  have hq : 1 ≤ n / r := by
    obtain ⟨m, hm⟩ := c3
    rw [hm, Int.mul_ediv_cancel_left _ (by omega)]
    have := Int.pos_of_mul_pos_right (by omega : 0 < r * m) (by omega)
    omega
  have e0 := Int.emod_nonneg u (b := n / r) (by omega)
  have e1 := Int.emod_lt_of_pos u (b := n / r) (by omega)
  exact halfX_of ⟨c1, c2, h.rn, e0, e1, c6⟩

/-- What the reference's inverse gives. -/
noncomputable def invI (a n : Int) : Int := if Int.gcd (a % n) n = 1 then halfX (a % n) n else -1

theorem inverseS_inv (a n : Int) (h1 : 1 ≤ n) (h2 : n ≤ 2147483647) : inverseS a n = if invI a n < 0 then (0, 11) else (invI a n, 0) := by
  unfold inverseS invI
  rw [if_pos ⟨h1, h2⟩]
  by_cases h : Int.gcd (a % n) n = 1
  · rw [if_pos h, if_pos h]
    have := halfX_lims (Int.emod_nonneg a (b := n) (by omega)) (Int.emod_lt_of_pos a (by omega))
    rw [if_neg (by omega)]
  · rw [if_neg h, if_neg h]; rfl

theorem gcd_emod_natAbs (a b : Int) : Int.gcd (a % (b.natAbs : Int)) (b.natAbs : Int) = Int.gcd a b := by
  rw [Int.gcd_comm]
  have h : a % (b.natAbs : Int) = a + (b.natAbs : Int) * (-(a / (b.natAbs : Int))) := by rw [Int.emod_def, Int.mul_neg]; omega
  rw [h, Int.gcd_add_mul_left_right, Int.gcd_comm]
  rfl

/-- The reference's x in Bezout. -/
theorem bez_x (a b g : Int) (hb : b ≠ 0) (hg : g = Int.gcd a b) : invI (a.tdiv g) ((b.natAbs : Int).tdiv g) = halfX (a % (b.natAbs : Int)) b.natAbs := by
  have hgp : 1 ≤ g := by
    have : Int.gcd a b ≠ 0 := by intro e; have := (Int.gcd_eq_zero_iff.1 e).2; omega
    omega
  obtain ⟨c, hc⟩ : g ∣ a := by rw [hg]; exact Int.gcd_dvd_left a b
  obtain ⟨m, hm⟩ : g ∣ (b.natAbs : Int) := by rw [hg]; exact Int.dvd_natAbs.2 (Int.gcd_dvd_right a b)
  have e1 : a.tdiv g = c := by rw [hc]; exact Int.mul_tdiv_cancel_left _ (by omega)
  have e2 : (b.natAbs : Int).tdiv g = m := by rw [hm]; exact Int.mul_tdiv_cancel_left _ (by omega)
  have hmp : 1 ≤ m := by
    have := Int.pos_of_mul_pos_right (by omega : 0 < g * m) (by omega)
    omega
  have hgab : (Int.gcd a (b.natAbs : Int) : Int) = g := by rw [hg]; rfl
  have hcm : Int.gcd c m = 1 := by
    have h1 : Int.gcd (g * c) (g * m) = g.natAbs * Int.gcd c m := Int.gcd_mul_left g c m
    rw [← hc, ← hm] at h1
    have h2 : g.natAbs = Int.gcd a (b.natAbs : Int) := by omega
    rw [h2] at h1
    have h3 : 0 < Int.gcd a (b.natAbs : Int) := by omega
    exact (Nat.eq_of_mul_eq_mul_left h3 (by omega : Int.gcd a (b.natAbs : Int) * 1 = Int.gcd a (b.natAbs : Int) * Int.gcd c m)).symm
  have hcm' : Int.gcd (c % m) m = 1 := by
    have := gcd_emod_natAbs c m
    rw [show (m.natAbs : Int) = m by omega] at this
    omega
  rw [e1, e2]
  unfold invI
  rw [if_pos hcm']
  obtain ⟨_, _, _, x0, x1, x2⟩ := halfX_out (Int.emod_nonneg c (b := m) (by omega)) (Int.emod_lt_of_pos c (b := m) (by omega))
  rw [hcm'] at x1 x2
  have hout : HalfOut (a % (b.natAbs : Int)) (b.natAbs : Int) g (halfX (c % m) m) := by
    refine ⟨?_, hgp, ?_, x0, ?_, ?_⟩
    · rw [gcd_emod_natAbs, hg]
    · have := Int.mul_le_mul_of_nonneg_left hmp (show 0 ≤ g by omega); omega
    · rw [hm, Int.mul_ediv_cancel_left _ (by omega)]
      rw [show ((1 : Nat) : Int) = 1 from rfl, Int.ediv_one] at x1
      exact x1
    · have h1 : m ∣ halfX (c % m) m * c - 1 := by
        have h2 : halfX (c % m) m * c - 1 = (halfX (c % m) m * (c % m) - 1) + m * (halfX (c % m) m * (c / m)) := by
          have := Int.emod_add_mul_ediv c m
          have h3 : halfX (c % m) m * c = halfX (c % m) m * (c % m) + m * (halfX (c % m) m * (c / m)) := by
            rw [show halfX (c % m) m * (c % m) + m * (halfX (c % m) m * (c / m)) = halfX (c % m) m * (c % m + m * (c / m)) by rw [Int.mul_add]; simp only [Int.mul_left_comm], this]
          omega
        rw [h2]
        exact Int.dvd_add x2 (Int.dvd_mul_right _ _)
      have h4 : (b.natAbs : Int) ∣ halfX (c % m) m * a - g := by
        obtain ⟨t, ht⟩ := h1
        refine ⟨t, ?_⟩
        have : halfX (c % m) m * a - g = g * (halfX (c % m) m * c - 1) := by
          rw [Int.mul_sub, Int.mul_one, hc]; simp only [Int.mul_left_comm]
        rw [this, ht, hm, Int.mul_assoc]
      have h5 : halfX (c % m) m * (a % (b.natAbs : Int)) - g = (halfX (c % m) m * a - g) - (b.natAbs : Int) * (halfX (c % m) m * (a / (b.natAbs : Int))) := by
        rw [Int.emod_def a, Int.mul_sub]
        have : halfX (c % m) m * ((b.natAbs : Int) * (a / (b.natAbs : Int))) = (b.natAbs : Int) * (halfX (c % m) m * (a / (b.natAbs : Int))) := by simp only [Int.mul_left_comm]
        omega
      rw [h5]
      exact Int.dvd_sub h4 (Int.dvd_mul_right _ _)
  exact (halfX_of hout).2

/-- The reference's step with reduced fractions. -/
theorem choose_div {q e c u : Nat} (he : 1 ≤ e) (h : q * e = c * u) : ∃ e' c' : Nat, e / Nat.gcd c e = e' ∧ c / Nat.gcd c e = c' ∧ 1 ≤ e' ∧ e' ≤ e ∧ c' ≤ c ∧ 1 ≤ Nat.gcd c e ∧ Nat.gcd c e ≤ e ∧ c' * (u / e') = q := by
  have hg : 0 < Nat.gcd c e := Nat.gcd_pos_of_pos_right _ (by omega)
  obtain ⟨c', hc⟩ := Nat.gcd_dvd_left c e
  obtain ⟨e', he'⟩ := Nat.gcd_dvd_right c e
  have h1 : e / Nat.gcd c e = e' := Nat.div_eq_of_eq_mul_right hg he'
  have h2 : c / Nat.gcd c e = c' := Nat.div_eq_of_eq_mul_right hg hc
  have hcop : Nat.Coprime c' e' := by
    have := Nat.coprime_div_gcd_div_gcd (m := c) (n := e) hg
    rw [h1, h2] at this
    exact this
  have e1 : 1 ≤ e' := by
    rcases Nat.eq_zero_or_pos e' with h3 | h3
    · rw [h3] at he'; omega
    · exact h3
  have h3 : q * e' = c' * u := by
    have h4 : Nat.gcd c e * (q * e') = Nat.gcd c e * (c' * u) := by
      rw [Nat.mul_left_comm, ← he', h, ← Nat.mul_assoc, ← hc]
    exact Nat.eq_of_mul_eq_mul_left hg h4
  have h5 : e' ∣ u := Nat.Coprime.dvd_of_dvd_mul_left hcop.symm (by rw [← h3]; exact Nat.dvd_mul_left _ _)
  obtain ⟨t, ht⟩ := h5
  refine ⟨e', c', h1, h2, e1, ?_, ?_, hg, Nat.le_of_dvd (by omega) (Nat.gcd_dvd_right c e), ?_⟩
  · rw [← h1]; exact Nat.div_le_self _ _
  · rw [← h2]; exact Nat.div_le_self _ _
  · rw [ht, Nat.mul_div_cancel_left _ (by omega)]
    rw [ht] at h3
    have h6 : e' * q = e' * (c' * t) := by rw [Nat.mul_comm, h3, Nat.mul_left_comm]
    exact (Nat.eq_of_mul_eq_mul_left (by omega) h6).symm

end Go.Proofs.Ytdnmhjpeklaijaa
