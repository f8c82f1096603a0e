/- Plain mathematics: the product of residues, as the kernel reckons it. -/
import Derived.Test.YtpphaicbdeeacaaFldZ
namespace Go.Proofs.Ytpphaicbdeeacaa
set_option linter.unusedVariables false
set_option linter.unusedSimpArgs false

noncomputable section
def hdC (l : List Nat) : Nat := @List.rec Nat (fun _ => Nat) 0 (fun x _ _ => x) l
def tlC (l : List Nat) : List Nat := @List.rec Nat (fun _ => List Nat) [] (fun _ t _ => t) l
def zipC (p c b : Nat) (as_ : List Nat) : List Nat → List Nat → Nat → List Nat :=
  @List.rec Nat (fun _ => List Nat → List Nat → Nat → List Nat) (fun _ _ _ => [])
    (fun a _ ih os ls s => Nat.mod (Nat.add (Nat.add s (Nat.mul c (hdC ls))) (Nat.mul b a)) p :: ih (tlC os) (tlC ls) (hdC os)) as_
def lastC (l : List Nat) : Nat → Nat := @List.rec Nat (fun _ => Nat → Nat) (fun d => d) (fun x _ ih _ => ih x) l
def stepC (p : Nat) (low a : List Nat) (b : Nat) (out : List Nat) : List Nat := zipC p (Nat.sub p (lastC out 0)) b a out low 0
def mulC (p : Nat) (low z a : List Nat) (bs : List Nat) : List Nat := @List.rec Nat (fun _ => List Nat) z (fun b _ ih => stepC p low a b ih) bs
def dgC (p : Nat) (n : Nat) : Nat → List Nat := @Nat.rec (fun _ => Nat → List Nat) (fun _ => []) (fun _ ih x => Nat.mod x p :: ih (Nat.div x p)) n
def codC (p : Nat) (l : List Nat) : Nat := @List.rec Nat (fun _ => Nat) 0 (fun x _ ih => Nat.add x (Nat.mul p ih)) l
/-- The product of codes. -/
def kmC (p m : Nat) (low z : List Nat) (x y : Nat) : Nat := codC p (mulC p low z (dgC p m x) (dgC p m y))
end

def lf (l : List Nat) : Vc := fun j => ((l.getD j 0 : Nat) : Int)

theorem hdC_eq (l : List Nat) : hdC l = l.getD 0 0 := by cases l <;> rfl
theorem tlC_get (l : List Nat) (j : Nat) : (tlC l).getD j 0 = l.getD (j + 1) 0 := by cases l <;> simp [tlC]
theorem zipC_cons (p c b a : Nat) (as_ os ls : List Nat) (s : Nat) : zipC p c b (a :: as_) os ls s = (s + c * hdC ls + b * a) % p :: zipC p c b as_ (tlC os) (tlC ls) (hdC os) := rfl
theorem zipC_len (p c b : Nat) : ∀ (as_ os ls : List Nat) (s : Nat), (zipC p c b as_ os ls s).length = as_.length
  | [], _, _, _ => rfl
  | a :: as_, os, ls, s => by rw [zipC_cons, List.length_cons, zipC_len p c b as_, List.length_cons]
theorem zipC_get (p c b : Nat) : ∀ (as_ os ls : List Nat) (s j : Nat), j < as_.length →
    (zipC p c b as_ os ls s).getD j 0 = ((if j = 0 then s else os.getD (j - 1) 0) + c * ls.getD j 0 + b * as_.getD j 0) % p
  | [], _, _, _, j, h => by simp at h
  | a :: as_, os, ls, s, 0, _ => by rw [zipC_cons, hdC_eq]; simp
  | a :: as_, os, ls, s, j + 1, h => by
    rw [zipC_cons]
    simp only [List.getD_cons_succ]
    have e : (if j = 0 then hdC os else (tlC os).getD (j - 1) 0) = os.getD j 0 := by
      by_cases hj : j = 0
      · rw [if_pos hj, hdC_eq, hj]
      · rw [if_neg hj, tlC_get, show j - 1 + 1 = j by omega]
    rw [zipC_get p c b as_ _ _ _ j (by simpa using h), e, tlC_get, if_neg (show ¬ j + 1 = 0 by omega), Nat.add_sub_cancel]
theorem lastC_eq : ∀ (l : List Nat) (d : Nat), lastC l d = if l = [] then d else l.getD (l.length - 1) 0
  | [], d => rfl
  | x :: l, d => by
    show lastC l x = _
    rw [lastC_eq l x]
    cases l with
    | nil => simp
    | cons y l => simp

theorem mulC_hor {p m : Nat} {low z a : List Nat} (hp : 1 ≤ p) (hm : 1 ≤ m) (hl : low.length = m) (ha : a.length = m) (hz : z = List.replicate m 0) :
    ∀ bs : List Nat, (mulC p low z a bs).length = m ∧ ∀ j, j < m → (((mulC p low z a bs).getD j 0 : Nat) : Int) = hor m (lf low) (lf a) bs.length (lf bs) j % (p : Int)
  | [] => by
    subst hz
    refine ⟨List.length_replicate .., fun j hj => ?_⟩
    show (((List.replicate m 0).getD j 0 : Nat) : Int) = 0 % (p : Int)
    rw [List.getD_eq_getElem?_getD, List.getElem?_replicate, if_pos hj]; simp
  | b :: bs => by
    obtain ⟨h1, h2⟩ := mulC_hor hp hm hl ha hz bs
    show (stepC p low a b (mulC p low z a bs)).length = m ∧ _
    refine ⟨by unfold stepC; rw [zipC_len, ha], fun j hj => ?_⟩
    show (((stepC p low a b (mulC p low z a bs)).getD j 0 : Nat) : Int) = _
    generalize mulC p low z a bs = o at *
    unfold stepC
    rw [zipC_get _ _ _ _ _ _ _ _ (by omega), lastC_eq, if_neg (show ¬ o = [] by intro e; rw [e] at h1; simp at h1; omega), h1]
    have hlast := h2 (m - 1) (by omega)
    have hlp : o.getD (m - 1) 0 ≤ p := by
      have := Int.emod_lt_of_pos (hor m (lf low) (lf a) bs.length (lf bs) (m - 1)) (show 0 < (p : Int) by omega)
      omega
    rw [List.length_cons, hor]
    have e1 : (fun t => lf (b :: bs) (t + 1)) = lf bs := by funext t; simp [lf]
    have e2 : lf (b :: bs) 0 = (b : Int) := by simp [lf]
    rw [e1, e2]
    unfold sX
    dsimp only
    rw [if_pos hj]
    have e3 : ((Nat.sub p (o.getD (m - 1) 0) : Nat) : Int) = (p : Int) - ((o.getD (m - 1) 0 : Nat) : Int) := by
      show ((p - o.getD (m - 1) 0 : Nat) : Int) = _
      omega
    rw [Int.natCast_emod, Int.natCast_add, Int.natCast_add, Int.natCast_mul, Int.natCast_mul, e3, hlast]
    have e4 : (((if j = 0 then 0 else o.getD (j - 1) 0 : Nat)) : Int) % (p : Int) = (if j = 0 then 0 else hor m (lf low) (lf a) bs.length (lf bs) (j - 1)) % (p : Int) := by
      by_cases h0 : j = 0
      · rw [if_pos h0, if_pos h0]; rfl
      · rw [if_neg h0, if_neg h0, h2 (j - 1) (by omega)]
        exact Int.emod_emod_of_dvd _ (Int.dvd_refl _)
    generalize hor m (lf low) (lf a) bs.length (lf bs) = H at *
    refine eqm_add ?_ rfl
    have e5 : ((if j = 0 then 0 else H (j - 1)) - H (m - 1) * lf low j) % (p : Int) = ((if j = 0 then 0 else H (j - 1)) + ((p : Int) - H (m - 1)) * lf low j) % (p : Int) := by
      refine eqm_iff.2 ⟨- lf low j, ?_⟩
      generalize (if j = 0 then 0 else H (j - 1)) = zz
      grind
    rw [e5]
    exact eqm_add e4 (eqm_mul (eqm_sub rfl (Int.emod_emod_of_dvd _ (Int.dvd_refl _))) rfl)

theorem dgC_get (p : Nat) : ∀ (n x j : Nat), j < n → (dgC p n x).getD j 0 = x / p ^ j % p
  | 0, x, j, h => by omega
  | n + 1, x, 0, h => by show x % p = _; simp
  | n + 1, x, j + 1, h => by
    show (dgC p n (x / p)).getD j 0 = _
    rw [dgC_get p n (x / p) j (by omega), Nat.div_div_eq_div_mul, Nat.pow_succ, Nat.mul_comm p]
theorem dgC_len (p : Nat) : ∀ (n x : Nat), (dgC p n x).length = n
  | 0, x => rfl
  | n + 1, x => by show (dgC p n (x / p)).length + 1 = _; rw [dgC_len p n]
theorem lf_dgC (p m x : Nat) : lf (dgC p m x) = dig p m x := by
  funext j
  unfold lf dig
  by_cases h : j < m
  · rw [if_pos h, dgC_get p m x j h]
  · rw [if_neg h, List.getD_eq_getElem?_getD, List.getElem?_eq_none (by rw [dgC_len]; omega)]; rfl

theorem cod_shift (p : Nat) (v : Vc) : ∀ n, cod p (n + 1) v = v 0 + (p : Int) * cod p n (fun j => v (j + 1))
  | 0 => by simp [cod]
  | n + 1 => by
    rw [cod, cod_shift p v n]
    simp only [cod]
    rw [Nat.pow_succ, Int.natCast_mul]
    grind
theorem codC_eq (p : Nat) : ∀ l : List Nat, ((codC p l : Nat) : Int) = cod p l.length (lf l)
  | [] => rfl
  | x :: l => by
    show ((x + p * codC p l : Nat) : Int) = _
    rw [List.length_cons, cod_shift, Int.natCast_add, Int.natCast_mul, codC_eq p l]
    have : (fun j => lf (x :: l) (j + 1)) = lf l := by funext j; simp [lf]
    rw [this]
    simp [lf]
theorem kmC_eq {p m : Nat} {low : List Nat} (hp : 1 ≤ p) (hm : 1 ≤ m) (hl : low.length = m) (x y : Nat) : kmC p m low (List.replicate m 0) x y = kmul p m (lf low) x y := by
  have h := mulC_hor (z := List.replicate m 0) hp hm hl (dgC_len p m x) rfl (dgC p m y)
  have h1 : ((kmC p m low (List.replicate m 0) x y : Nat) : Int) = ((kmul p m (lf low) x y : Nat) : Int) := by
    unfold kmC
    rw [codC_eq, h.1]
    unfold kmul rep mulV
    rw [Int.toNat_of_nonneg (cod_rng (fun j => ⟨Int.emod_nonneg _ (by omega), Int.emod_lt_of_pos _ (by omega)⟩) m).1]
    refine cod_congr m fun j hj => ?_
    show (((mulC p low (List.replicate m 0) (dgC p m x) (dgC p m y)).getD j 0 : Nat) : Int) = _
    rw [h.2 j hj, dgC_len, lf_dgC, lf_dgC, hor_ap]
  omega

section
variable {p m : Nat} {low : Vc}
theorem kpw_mul_one (hp : 2 ≤ p) (hm : 1 ≤ m) {x i : Nat} (h : kpw p m low x i = 1) : ∀ k, kpw p m low x (i * k) = 1
  | 0 => rfl
  | k + 1 => by rw [Nat.mul_succ, kpw_add hp hm, kpw_mul_one hp hm h k, h, kmul_one hp hm (one_lt_q hp hm)]
theorem kpw_mod_one (hp : 2 ≤ p) (hm : 1 ≤ m) {x i j : Nat} (hi : kpw p m low x i = 1) (hj : kpw p m low x j = 1) : kpw p m low x (j % i) = 1 := by
  have h : kpw p m low x (i * (j / i) + j % i) = 1 := by rw [Nat.div_add_mod]; exact hj
  rw [kpw_add hp hm, kpw_mul_one hp hm hi, one_kmul hp hm (kpw_lt hp hm x _)] at h
  exact h
theorem kpw_gcd_one (hp : 2 ≤ p) (hm : 1 ≤ m) {x : Nat} : ∀ (i j : Nat), kpw p m low x i = 1 → kpw p m low x j = 1 → kpw p m low x (Nat.gcd i j) = 1 := by
  intro i
  induction i using Nat.strongRecOn with
  | _ i ih =>
    intro j hi hj
    rcases Nat.eq_zero_or_pos i with e | e
    · subst e; rwa [Nat.gcd_zero_left]
    · rw [Nat.gcd_rec]
      exact ih (j % i) (Nat.mod_lt _ e) i (kpw_mod_one hp hm hi hj) hi

/-- The order is q - 1 if no greatest proper divisor is an order. -/
theorem gen_of (hp : 2 ≤ p) (hm : 1 ≤ m) {x : Nat} {D : List Nat} (h1 : kpw p m low x (p ^ m - 1) = 1) (hD : ∀ y ∈ D, kpw p m low x y ≠ 1)
    (hC : ∀ e, e < p ^ m - 1 → e ∣ p ^ m - 1 → ∃ y ∈ D, e ∣ y) : GenOK p m low x := by
  refine ⟨h1, fun k k1 k2 hk => ?_⟩
  have hg := kpw_gcd_one hp hm _ _ hk h1
  have hlt : Nat.gcd k (p ^ m - 1) < p ^ m - 1 := Nat.lt_of_le_of_lt (Nat.le_of_dvd (by omega) (Nat.gcd_dvd_left _ _)) k2
  obtain ⟨y, hy, c, rfl⟩ := hC _ hlt (Nat.gcd_dvd_right _ _)
  exact hD _ hy (kpw_mul_one hp hm hg c)
end

noncomputable section
/-- The power, by the bits of the exponent from the highest on. -/
def pwC (p m : Nat) (low z : List Nat) (x : Nat) (bs : List Bool) : Nat → Nat := @List.rec Bool (fun _ => Nat → Nat) (fun y => y)
  (fun b _ ih y => ih (match b with | true => kmC p m low z (kmC p m low z y y) x | false => kmC p m low z y y)) bs
end
def ofBits : Nat → List Bool → Nat
  | n, [] => n
  | n, b :: bs => ofBits (2 * n + if b then 1 else 0) bs
theorem pwC_eq {p m : Nat} {low : List Nat} (hp : 2 ≤ p) (hm : 1 ≤ m) (hl : low.length = m) (x : Nat) (hx : x < p ^ m) : ∀ (bs : List Bool) (n : Nat), pwC p m low (List.replicate m 0) x bs (kpw p m (lf low) x n) = kpw p m (lf low) x (ofBits n bs)
  | [], n => rfl
  | b :: bs, n => by
    have e : kmC p m low (List.replicate m 0) (kpw p m (lf low) x n) (kpw p m (lf low) x n) = kpw p m (lf low) x (2 * n) := by
      rw [kmC_eq (by omega) hm hl, ← kpw_add hp hm, Nat.two_mul]
    cases b with
    | true =>
      show pwC p m low (List.replicate m 0) x bs (kmC p m low (List.replicate m 0) (kmC p m low (List.replicate m 0) (kpw p m (lf low) x n) (kpw p m (lf low) x n)) x) = _
      rw [e, kmC_eq (by omega) hm hl]
      exact pwC_eq hp hm hl x hx bs (2 * n + 1)
    | false =>
      show pwC p m low (List.replicate m 0) x bs (kmC p m low (List.replicate m 0) (kpw p m (lf low) x n) (kpw p m (lf low) x n)) = _
      rw [e]
      exact pwC_eq hp hm hl x hx bs (2 * n)
end Go.Proofs.Ytpphaicbdeeacaa
