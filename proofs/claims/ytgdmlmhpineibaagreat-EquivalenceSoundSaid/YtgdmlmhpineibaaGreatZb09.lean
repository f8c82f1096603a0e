/- Plain mathematics: where a monic polynomial divides the modulus there is no field. -/
/- The kernel's tables: for each order p^m up to 256, m at least 2, and each modulus, a generator or a divisor (printed by gen_table.py). -/
import Derived.Test.YtgdmlmhpineibaaGreatZb08
/- Plain mathematics: the product of residues, as the kernel reckons it. -/
namespace Go.Proofs.YtgdmlmhpineibaaGreat
set_option linter.unusedVariables false
set_option linter.unusedSimpArgs false

section
variable {m d : Nat} {f low : Vc}

/-- The value at X in the ring of the divisor. -/
def pj (m d : Nat) (low v : Vc) : Vc := ap d low m v one_
theorem ap_coef_lin {n : Nat} {x : Vc} (a b : Int) (v w : Vc) : ap d low n (fun j => a * v j + b * w j) x = fun t => a * ap d low n v x t + b * ap d low n w x t := by
  induction n with
  | zero => funext t; simp [ap]
  | succ n ih => funext t; simp only [ap]; rw [ih]; grind
theorem ap_coef_add {n : Nat} {x : Vc} (v w : Vc) (b : Int) : ap d low n (fun j => v j + b * w j) x = fun t => ap d low n v x t + b * ap d low n w x t := by
  have := ap_coef_lin (d := d) (low := low) (n := n) (x := x) 1 b v w
  simpa using this
theorem ap_shift1 (v x : Vc) : ∀ n, ap d low (n + 1) (fun j => if j = 0 then 0 else v (j - 1)) x = sX d low (ap d low n v x)
  | 0 => by
    have : sX d low (fun _ => 0) = fun _ => 0 := sX_lin.zero
    simp only [ap]; rw [this]; funext t; simp
  | n + 1 => by
    rw [ap, ap_shift1 v x n]
    rw [ap, sX_lin.add_smul]
    funext t
    simp only [sXn]
    rw [if_neg (by omega), Nat.add_sub_cancel]
theorem pj_sX {p : Int} (hm : 1 ≤ m) (h0 : EqM p (fun t => ap d low m f one_ t + sXn d low m one_ t) (fun _ => 0)) (v : Vc) :
    EqM p (pj m d low (sX m f v)) (sX d low (pj m d low v)) := by
  obtain ⟨n, rfl⟩ : ∃ n, m = n + 1 := ⟨m - 1, by omega⟩
  intro t
  unfold pj
  have e1 : ap d low (n + 1) (sX (n + 1) f v) one_ = ap d low (n + 1) (fun j => (if j = 0 then 0 else v (j - 1)) + (- v n) * f j) one_ := ap_congr fun j hj => by
    unfold sX
    rw [if_pos hj, Nat.add_sub_cancel]
    grind
  rw [e1, ap_coef_add, ap_shift1]
  have e2 : sX d low (ap d low (n + 1) v one_) = fun t => sX d low (ap d low n v one_) t + v n * sXn d low (n + 1) one_ t := by
    rw [ap, sX_lin.add_smul]; rfl
  rw [e2]
  have e3 := h0 t
  dsimp only at e3 ⊢
  generalize sX d low (ap d low n v one_) t = A at *
  generalize ap d low (n + 1) f one_ t = B at *
  generalize sXn d low (n + 1) one_ t = C at *
  obtain ⟨k, hk⟩ := eqm_iff.1 e3
  refine eqm_iff.2 ⟨- v n * k, ?_⟩
  grind
theorem pj_sXn {p : Int} (hm : 1 ≤ m) (h0 : EqM p (fun t => ap d low m f one_ t + sXn d low m one_ t) (fun _ => 0)) (v : Vc) : ∀ k, EqM p (pj m d low (sXn m f k v)) (sXn d low k (pj m d low v))
  | 0 => EqM.refl _ _
  | k + 1 => (pj_sX hm h0 _).trans (EqM.sX (pj_sXn hm h0 v k))
theorem pj_ap {p : Int} (hm : 1 ≤ m) (h0 : EqM p (fun t => ap d low m f one_ t + sXn d low m one_ t) (fun _ => 0)) (y x : Vc) : ∀ n, EqM p (pj m d low (ap m f n y x)) (ap d low n y (pj m d low x))
  | 0 => by
    intro t
    show ap d low m (fun _ => 0) one_ t % p = _
    have e := ap_coef_lin (d := d) (low := low) (n := m) (x := one_) 0 0 (fun _ => 0) (fun _ => 0)
    simp only [Int.zero_mul, Int.add_zero] at e
    rw [e]; rfl
  | n + 1 => by
    intro t
    have e : pj m d low (ap m f (n + 1) y x) = fun t => pj m d low (ap m f n y x) t + y n * pj m d low (sXn m f n x) t := by
      unfold pj
      simp only [ap]
      exact ap_coef_add _ _ _
    rw [e]
    simp only [ap]
    exact eqm_add (pj_ap hm h0 y x n t) (eqm_mul rfl (pj_sXn hm h0 x n t))
theorem pj_congr {p : Int} {v w : Vc} (h : EqM p v w) : EqM p (pj m d low v) (pj m d low w) := EqM.ap (EqM.refl _ _) h m
theorem not_field {p : Nat} (hp : 2 ≤ p) (hd : 1 ≤ d) (hdm : d < m) (hl : ∀ j, 0 ≤ low j ∧ low j < p)
    (h0 : EqM p (fun t => ap d low m f one_ t + sXn d low m one_ t) (fun _ => 0)) : ¬ IsF p m f := fun hF => by
  -- the divisor as an element
  obtain ⟨D, hD⟩ : ∃ D : Vc, (fun j => if j < d then low j else if j = d then 1 else 0) = D := ⟨_, rfl⟩
  have hDs : IsD p m D := by
    rw [← hD]
    refine ⟨fun j hj => by dsimp only; rw [if_neg (by omega), if_neg (by omega)], fun j => ?_⟩
    dsimp only
    split
    · exact hl j
    · split <;> omega
  have hpD : pj m d low D = fun _ => 0 := by
    unfold pj
    have e1 : ap d low m D one_ = ap d low (d + 1) D one_ := by
      have key : ∀ c, ap d low (d + 1 + c) D one_ = ap d low (d + 1) D one_ := by
        intro c
        induction c with
        | zero => rfl
        | succ c ih =>
          rw [← Nat.add_assoc, ap, ih]
          have : D (d + 1 + c) = 0 := by rw [← hD]; dsimp only; rw [if_neg (by omega), if_neg (by omega)]
          rw [this]; funext t; simp
      have := key (m - (d + 1))
      rwa [show d + 1 + (m - (d + 1)) = m by omega] at this
    rw [e1, ap, sXn_top hd]
    have e2 : ap d low d D one_ = ap d low d low one_ := ap_congr fun j hj => by rw [← hD]; dsimp only; rw [if_pos hj]
    have e3 : D d = 1 := by rw [← hD]; dsimp only; rw [if_neg (by omega), if_pos rfl]
    rw [e2, e3]
    funext t
    simp
    omega
  have hdig := dig_cod' (show 1 ≤ p by omega) hDs
  obtain ⟨c, hc⟩ : ∃ c, (cod p m D).toNat = c := ⟨_, rfl⟩
  rw [hc] at hdig
  have hr := cod_rng hDs.2 m
  have hc2 : c < p ^ m := by omega
  have hc1 : 1 ≤ c := by
    rcases Nat.eq_zero_or_pos c with e | e
    · exfalso
      rw [e, dig_zero] at hdig
      have := congrFun hdig d
      rw [← hD] at this
      dsimp only at this
      rw [if_neg (by omega), if_pos rfl] at this
      omega
    · exact e
  obtain ⟨z, _, _, hz⟩ := hF.inv hp (by omega) hc1 hc2
  unfold kmul at hz
  rw [hdig] at hz
  have h1 : EqM p (mulV m f D (dig p m z)) one_ := by
    have := dig_rep_eqm (p := p) (m := m) (by omega) (mulV_sup (low := f) (y := dig p m z) hDs.1)
    rw [hz, dig_one hp (by omega)] at this
    exact this.symm
  have h2 := pj_congr (m := m) (d := d) (low := low) h1
  have h3 := pj_ap (m := m) (by omega) h0 (dig p m z) D m
  rw [hpD, (ap_lin m (dig p m z)).zero] at h3
  have h4 := (h3.symm.trans h2) 0
  have h5 : pj m d low one_ 0 = 1 := by
    unfold pj
    obtain ⟨n, rfl⟩ : ∃ n, m = n + 1 := ⟨m - 1, by omega⟩
    have key : ∀ k, ap d low (k + 1) one_ one_ = one_ := by
      intro k
      induction k with
      | zero => funext t; simp [ap, sXn, one_]
      | succ k ih => rw [ap, ih]; funext t; simp [one_]
    rw [key]; rfl
  rw [h5] at h4
  have : (1 : Int) % (p : Int) = 1 := Int.emod_eq_of_lt (by omega) (by omega)
  simp at h4
  omega
end
end Go.Proofs.YtgdmlmhpineibaaGreat
namespace Go.Proofs.YtgdmlmhpineibaaGreat
set_option linter.unusedVariables false
set_option linter.unusedSimpArgs false

noncomputable section
def hdC (l : List Nat) : Nat := @List.rec Nat (fun _ => Nat) 0 (fun x _ _ => x) l
def tlC (l : List Nat) : List Nat := @List.rec Nat (fun _ => List Nat) [] (fun _ t _ => t) l
def zipC (p c b : Nat) (as_ : List Nat) : List Nat → List Nat → Nat → List Nat :=
  @List.rec Nat (fun _ => List Nat → List Nat → Nat → List Nat) (fun _ _ _ => [])
    (fun a _ ih os ls s => Nat.mod (Nat.add (Nat.add s (Nat.mul c (hdC ls))) (Nat.mul b a)) p :: ih (tlC os) (tlC ls) (hdC os)) as_
def lastC (l : List Nat) : Nat → Nat := @List.rec Nat (fun _ => Nat → Nat) (fun d => d) (fun x _ ih _ => ih x) l
def stepC (p : Nat) (low a : List Nat) (b : Nat) (out : List Nat) : List Nat := zipC p (Nat.sub p (lastC out 0)) b a out low 0
def mulC (p : Nat) (low z a : List Nat) (bs : List Nat) : List Nat := @List.rec Nat (fun _ => List Nat) z (fun b _ ih => stepC p low a b ih) bs
def dgC (p : Nat) (n : Nat) : Nat → List Nat := @Nat.rec (fun _ => Nat → List Nat) (fun _ => []) (fun _ ih x => Nat.mod x p :: ih (Nat.div x p)) n
def codC (p : Nat) (l : List Nat) : Nat := @List.rec Nat (fun _ => Nat) 0 (fun x _ ih => Nat.add x (Nat.mul p ih)) l
/-- The product of codes. -/
def kmC (p m : Nat) (low z : List Nat) (x y : Nat) : Nat := codC p (mulC p low z (dgC p m x) (dgC p m y))
end

def lf (l : List Nat) : Vc := fun j => ((l.getD j 0 : Nat) : Int)
theorem hdC_eq (l : List Nat) : hdC l = l.getD 0 0 := by cases l <;> rfl
theorem tlC_get (l : List Nat) (j : Nat) : (tlC l).getD j 0 = l.getD (j + 1) 0 := by cases l <;> simp [tlC]
theorem zipC_cons (p c b a : Nat) (as_ os ls : List Nat) (s : Nat) : zipC p c b (a :: as_) os ls s = (s + c * hdC ls + b * a) % p :: zipC p c b as_ (tlC os) (tlC ls) (hdC os) := rfl
theorem zipC_len (p c b : Nat) : ∀ (as_ os ls : List Nat) (s : Nat), (zipC p c b as_ os ls s).length = as_.length
  | [], _, _, _ => rfl
  | a :: as_, os, ls, s => by rw [zipC_cons, List.length_cons, zipC_len p c b as_, List.length_cons]
theorem zipC_get (p c b : Nat) : ∀ (as_ os ls : List Nat) (s j : Nat), j < as_.length →
    (zipC p c b as_ os ls s).getD j 0 = ((if j = 0 then s else os.getD (j - 1) 0) + c * ls.getD j 0 + b * as_.getD j 0) % p
  | [], _, _, _, j, h => by simp at h
  | a :: as_, os, ls, s, 0, _ => by rw [zipC_cons, hdC_eq]; simp
  | a :: as_, os, ls, s, j + 1, h => by
    rw [zipC_cons]
    simp only [List.getD_cons_succ]
    have e : (if j = 0 then hdC os else (tlC os).getD (j - 1) 0) = os.getD j 0 := by
      by_cases hj : j = 0
      · rw [if_pos hj, hdC_eq, hj]
      · rw [if_neg hj, tlC_get, show j - 1 + 1 = j by omega]
    rw [zipC_get p c b as_ _ _ _ j (by simpa using h), e, tlC_get, if_neg (show ¬ j + 1 = 0 by omega), Nat.add_sub_cancel]
theorem lastC_eq : ∀ (l : List Nat) (d : Nat), lastC l d = if l = [] then d else l.getD (l.length - 1) 0
  | [], d => rfl
  | x :: l, d => by
    show lastC l x = _
    rw [lastC_eq l x]
    cases l with
    | nil => simp
    | cons y l => simp
theorem mulC_hor {p m : Nat} {low z a : List Nat} (hp : 1 ≤ p) (hm : 1 ≤ m) (hl : low.length = m) (ha : a.length = m) (hz : z = List.replicate m 0) :
    ∀ bs : List Nat, (mulC p low z a bs).length = m ∧ ∀ j, j < m → (((mulC p low z a bs).getD j 0 : Nat) : Int) = hor m (lf low) (lf a) bs.length (lf bs) j % (p : Int)
  | [] => by
    subst hz
    refine ⟨List.length_replicate .., fun j hj => ?_⟩
    show (((List.replicate m 0).getD j 0 : Nat) : Int) = 0 % (p : Int)
    rw [List.getD_eq_getElem?_getD, List.getElem?_replicate, if_pos hj]; simp
  | b :: bs => by
    obtain ⟨h1, h2⟩ := mulC_hor hp hm hl ha hz bs
    show (stepC p low a b (mulC p low z a bs)).length = m ∧ _
    refine ⟨by unfold stepC; rw [zipC_len, ha], fun j hj => ?_⟩
    show (((stepC p low a b (mulC p low z a bs)).getD j 0 : Nat) : Int) = _
    generalize mulC p low z a bs = o at *
    unfold stepC
    rw [zipC_get _ _ _ _ _ _ _ _ (by omega), lastC_eq, if_neg (show ¬ o = [] by intro e; rw [e] at h1; simp at h1; omega), h1]
    have hlast := h2 (m - 1) (by omega)
    have hlp : o.getD (m - 1) 0 ≤ p := by
      have := Int.emod_lt_of_pos (hor m (lf low) (lf a) bs.length (lf bs) (m - 1)) (show 0 < (p : Int) by omega)
      omega
    rw [List.length_cons, hor]
    have e1 : (fun t => lf (b :: bs) (t + 1)) = lf bs := by funext t; simp [lf]
    have e2 : lf (b :: bs) 0 = (b : Int) := by simp [lf]
    rw [e1, e2]
    unfold sX
    dsimp only
    rw [if_pos hj]
    have e3 : ((Nat.sub p (o.getD (m - 1) 0) : Nat) : Int) = (p : Int) - ((o.getD (m - 1) 0 : Nat) : Int) := by
      show ((p - o.getD (m - 1) 0 : Nat) : Int) = _
      omega
    rw [Int.natCast_emod, Int.natCast_add, Int.natCast_add, Int.natCast_mul, Int.natCast_mul, e3, hlast]
    have e4 : (((if j = 0 then 0 else o.getD (j - 1) 0 : Nat)) : Int) % (p : Int) = (if j = 0 then 0 else hor m (lf low) (lf a) bs.length (lf bs) (j - 1)) % (p : Int) := by
      by_cases h0 : j = 0
      · rw [if_pos h0, if_pos h0]; rfl
      · rw [if_neg h0, if_neg h0, h2 (j - 1) (by omega)]
        exact Int.emod_emod_of_dvd _ (Int.dvd_refl _)
    generalize hor m (lf low) (lf a) bs.length (lf bs) = H at *
    refine eqm_add ?_ rfl
    have e5 : ((if j = 0 then 0 else H (j - 1)) - H (m - 1) * lf low j) % (p : Int) = ((if j = 0 then 0 else H (j - 1)) + ((p : Int) - H (m - 1)) * lf low j) % (p : Int) := by
      refine eqm_iff.2 ⟨- lf low j, ?_⟩
      generalize (if j = 0 then 0 else H (j - 1)) = zz
      grind
    rw [e5]
    exact eqm_add e4 (eqm_mul (eqm_sub rfl (Int.emod_emod_of_dvd _ (Int.dvd_refl _))) rfl)
theorem dgC_get (p : Nat) : ∀ (n x j : Nat), j < n → (dgC p n x).getD j 0 = x / p ^ j % p
  | 0, x, j, h => by omega
  | n + 1, x, 0, h => by show x % p = _; simp
  | n + 1, x, j + 1, h => by
    show (dgC p n (x / p)).getD j 0 = _
    rw [dgC_get p n (x / p) j (by omega), Nat.div_div_eq_div_mul, Nat.pow_succ, Nat.mul_comm p]
theorem dgC_len (p : Nat) : ∀ (n x : Nat), (dgC p n x).length = n
  | 0, x => rfl
  | n + 1, x => by show (dgC p n (x / p)).length + 1 = _; rw [dgC_len p n]
theorem lf_dgC (p m x : Nat) : lf (dgC p m x) = dig p m x := by
  funext j
  unfold lf dig
  by_cases h : j < m
  · rw [if_pos h, dgC_get p m x j h]
  · rw [if_neg h, List.getD_eq_getElem?_getD, List.getElem?_eq_none (by rw [dgC_len]; omega)]; rfl
theorem cod_shift (p : Nat) (v : Vc) : ∀ n, cod p (n + 1) v = v 0 + (p : Int) * cod p n (fun j => v (j + 1))
  | 0 => by simp [cod]
  | n + 1 => by
    rw [cod, cod_shift p v n]
    simp only [cod]
    rw [Nat.pow_succ, Int.natCast_mul]
    grind
theorem codC_eq (p : Nat) : ∀ l : List Nat, ((codC p l : Nat) : Int) = cod p l.length (lf l)
  | [] => rfl
  | x :: l => by
    show ((x + p * codC p l : Nat) : Int) = _
    rw [List.length_cons, cod_shift, Int.natCast_add, Int.natCast_mul, codC_eq p l]
    have : (fun j => lf (x :: l) (j + 1)) = lf l := by funext j; simp [lf]
    rw [this]
    simp [lf]
theorem kmC_eq {p m : Nat} {low : List Nat} (hp : 1 ≤ p) (hm : 1 ≤ m) (hl : low.length = m) (x y : Nat) : kmC p m low (List.replicate m 0) x y = kmul p m (lf low) x y := by
  have h := mulC_hor (z := List.replicate m 0) hp hm hl (dgC_len p m x) rfl (dgC p m y)
  have h1 : ((kmC p m low (List.replicate m 0) x y : Nat) : Int) = ((kmul p m (lf low) x y : Nat) : Int) := by
    unfold kmC
    rw [codC_eq, h.1]
    unfold kmul rep mulV
    rw [Int.toNat_of_nonneg (cod_rng (fun j => ⟨Int.emod_nonneg _ (by omega), Int.emod_lt_of_pos _ (by omega)⟩) m).1]
    refine cod_congr m fun j hj => ?_
    show (((mulC p low (List.replicate m 0) (dgC p m x) (dgC p m y)).getD j 0 : Nat) : Int) = _
    rw [h.2 j hj, dgC_len, lf_dgC, lf_dgC, hor_ap]
  omega
section
variable {p m : Nat} {low : Vc}
theorem kpw_mul_one (hp : 2 ≤ p) (hm : 1 ≤ m) {x i : Nat} (h : kpw p m low x i = 1) : ∀ k, kpw p m low x (i * k) = 1
  | 0 => rfl
  | k + 1 => by rw [Nat.mul_succ, kpw_add hp hm, kpw_mul_one hp hm h k, h, kmul_one hp hm (one_lt_q hp hm)]
theorem kpw_mod_one (hp : 2 ≤ p) (hm : 1 ≤ m) {x i j : Nat} (hi : kpw p m low x i = 1) (hj : kpw p m low x j = 1) : kpw p m low x (j % i) = 1 := by
  have h : kpw p m low x (i * (j / i) + j % i) = 1 := by rw [Nat.div_add_mod]; exact hj
  rw [kpw_add hp hm, kpw_mul_one hp hm hi, one_kmul hp hm (kpw_lt hp hm x _)] at h
  exact h
theorem kpw_gcd_one (hp : 2 ≤ p) (hm : 1 ≤ m) {x : Nat} : ∀ (i j : Nat), kpw p m low x i = 1 → kpw p m low x j = 1 → kpw p m low x (Nat.gcd i j) = 1 := by
  intro i
  induction i using Nat.strongRecOn with
  | _ i ih =>
    intro j hi hj
    rcases Nat.eq_zero_or_pos i with e | e
    · subst e; rwa [Nat.gcd_zero_left]
    · rw [Nat.gcd_rec]
      exact ih (j % i) (Nat.mod_lt _ e) i (kpw_mod_one hp hm hi hj) hi
/-- The order is q - 1 if no greatest proper divisor is an order. -/
theorem gen_of (hp : 2 ≤ p) (hm : 1 ≤ m) {x : Nat} {D : List Nat} (h1 : kpw p m low x (p ^ m - 1) = 1) (hD : ∀ y ∈ D, kpw p m low x y ≠ 1)
    (hC : ∀ e, e < p ^ m - 1 → e ∣ p ^ m - 1 → ∃ y ∈ D, e ∣ y) : GenOK p m low x := by
  refine ⟨h1, fun k k1 k2 hk => ?_⟩
  have hg := kpw_gcd_one hp hm _ _ hk h1
  have hlt : Nat.gcd k (p ^ m - 1) < p ^ m - 1 := Nat.lt_of_le_of_lt (Nat.le_of_dvd (by omega) (Nat.gcd_dvd_left _ _)) k2
  obtain ⟨y, hy, c, rfl⟩ := hC _ hlt (Nat.gcd_dvd_right _ _)
  exact hD _ hy (kpw_mul_one hp hm hg c)
end

noncomputable section
/-- The power, by the bits of the exponent from the highest on. -/
def pwC (p m : Nat) (low z : List Nat) (x : Nat) (bs : List Bool) : Nat → Nat := @List.rec Bool (fun _ => Nat → Nat) (fun y => y)
  (fun b _ ih y => ih (match b with | true => kmC p m low z (kmC p m low z y y) x | false => kmC p m low z y y)) bs
end
def ofBits : Nat → List Bool → Nat
  | n, [] => n
  | n, b :: bs => ofBits (2 * n + if b then 1 else 0) bs
theorem pwC_eq {p m : Nat} {low : List Nat} (hp : 2 ≤ p) (hm : 1 ≤ m) (hl : low.length = m) (x : Nat) (hx : x < p ^ m) : ∀ (bs : List Bool) (n : Nat), pwC p m low (List.replicate m 0) x bs (kpw p m (lf low) x n) = kpw p m (lf low) x (ofBits n bs)
  | [], n => rfl
  | b :: bs, n => by
    have e : kmC p m low (List.replicate m 0) (kpw p m (lf low) x n) (kpw p m (lf low) x n) = kpw p m (lf low) x (2 * n) := by
      rw [kmC_eq (by omega) hm hl, ← kpw_add hp hm, Nat.two_mul]
    cases b with
    | true =>
      show pwC p m low (List.replicate m 0) x bs (kmC p m low (List.replicate m 0) (kmC p m low (List.replicate m 0) (kpw p m (lf low) x n) (kpw p m (lf low) x n)) x) = _
      rw [e, kmC_eq (by omega) hm hl]
      exact pwC_eq hp hm hl x hx bs (2 * n + 1)
    | false =>
      show pwC p m low (List.replicate m 0) x bs (kmC p m low (List.replicate m 0) (kpw p m (lf low) x n) (kpw p m (lf low) x n)) = _
      rw [e]
      exact pwC_eq hp hm hl x hx bs (2 * n)
end Go.Proofs.YtgdmlmhpineibaaGreat
namespace Go.Proofs.YtgdmlmhpineibaaGreat
set_option linter.unusedVariables false
set_option linter.unusedSimpArgs false

noncomputable section
def allB (f : List Bool → Bool) (l : List (List Bool)) : Bool := @List.rec (List Bool) (fun _ => Bool) true (fun x _ ih => match f x with | true => ih | false => false) l
def dvC (p d u : Nat) (low : List Nat) : Bool := Nat.beq (codC p (mulC p (dgC p d u) (dgC p d 0) (dgC p d 1) (low ++ [1]))) 0
def gnC (p m g : Nat) (b1 : List Bool) (D : List (List Bool)) (low : List Nat) : Bool :=
  match Nat.beq (pwC p m low (dgC p m 0) g b1 1) 1 with
  | true => allB (fun b => match Nat.beq (pwC p m low (dgC p m 0) g b 1) 1 with | true => false | false => true) D
  | false => false
def entC (p m : Nat) (b1 : List Bool) (D : List (List Bool)) (t : Nat) (low : List Nat) : Bool :=
  match Nat.beq (Nat.mod t 2) 0 with
  | true => dvC p (Nat.mod (Nat.div t 2) 8) (Nat.div t 16) low
  | false => gnC p m (Nat.div t 2) b1 D low
def tabC (p m : Nat) (b1 : List Bool) (D : List (List Bool)) (T : List Nat) : Nat → Bool :=
  @List.rec Nat (fun _ => Nat → Bool) (fun _ => true) (fun t _ ih v => match entC p m b1 D t (dgC p m v) with | true => ih (Nat.succ v) | false => false) T
end
set_option maxRecDepth 100000
theorem tab_2_2 : tabC 2 2 [true, true] [[true]] [2, 18, 2, 5] 0 = true := by decide +kernel
theorem tab_2_3 : tabC 2 3 [true, true, true] [[true]] [2, 18, 2, 5, 2, 5, 2, 18] 0 = true := by decide +kernel
theorem tab_2_4 : tabC 2 4 [true, true, true, true] [[true, false, true], [true, true]] [2, 18, 2, 5, 2, 52, 2, 18, 2, 5, 2, 18, 2, 18, 2, 7] 0 = true := by decide +kernel
theorem tab_2_5 : tabC 2 5 [true, true, true, true, true] [[true]] [2, 18, 2, 52, 2, 5, 2, 18, 2, 5, 2, 18, 2, 18, 2, 5, 2, 52, 2, 18, 2, 18, 2, 5, 2, 18, 2, 5, 2, 5, 2, 18] 0 = true := by decide +kernel
theorem tab_2_6 : tabC 2 6 [true, true, true, true, true, true] [[true, false, true, false, true], [true, false, false, true]] [2, 18, 2, 5, 2, 54, 2, 18, 2, 7, 2, 18, 2, 18, 2, 52, 2, 86, 2, 18, 2, 18, 2, 7, 2, 18, 2, 5, 2, 52, 2, 18, 2, 5, 2, 18, 2, 18, 2, 5, 2, 18, 2, 52, 2, 5, 2, 18, 2, 18, 2, 5, 2, 7, 2, 18, 2, 52, 2, 18, 2, 18, 2, 54] 0 = true := by decide +kernel
theorem tab_2_7 : tabC 2 7 [true, true, true, true, true, true, true] [[true]] [2, 18, 2, 5, 2, 52, 2, 18, 2, 5, 2, 18, 2, 18, 2, 5, 2, 5, 2, 18, 2, 18, 2, 52, 2, 18, 2, 86, 2, 5, 2, 18, 2, 52, 2, 18, 2, 18, 2, 5, 2, 18, 2, 5, 2, 54, 2, 18, 2, 18, 2, 52, 2, 86, 2, 18, 2, 5, 2, 18, 2, 18, 2, 5, 2, 5, 2, 18, 2, 18, 2, 86, 2, 18, 2, 5, 2, 52, 2, 18, 2, 18, 2, 5, 2, 5, 2, 18, 2, 54, 2, 18, 2, 18, 2, 52, 2, 18, 2, 54, 2, 5, 2, 18, 2, 52, 2, 18, 2, 18, 2, 5, 2, 5, 2, 18, 2, 18, 2, 5, 2, 18, 2, 52, 2, 5, 2, 18] 0 = true := by decide +kernel
theorem tab_2_8 : tabC 2 8 [true, true, true, true, true, true, true, true] [[true, false, true, false, true, false, true], [true, true, false, false, true, true], [true, true, true, true]] [2, 18, 2, 52, 2, 56, 2, 18, 2, 54, 2, 18, 2, 18, 2, 86, 2, 52, 2, 18, 2, 18, 2, 152, 2, 18, 2, 7, 2, 5, 2, 18, 2, 86, 2, 18, 2, 18, 2, 52, 2, 18, 2, 5, 2, 5, 2, 18, 2, 18, 2, 54, 2, 52, 2, 18, 2, 7, 2, 18, 2, 18, 2, 7, 2, 152, 2, 18, 2, 18, 2, 54, 2, 18, 2, 52, 2, 5, 2, 18, 2, 18, 2, 86, 2, 248, 2, 18, 2, 52, 2, 18, 2, 18, 2, 5, 2, 18, 2, 5, 2, 5, 2, 18, 2, 5, 2, 18, 2, 18, 2, 52, 2, 5, 2, 18, 2, 18, 2, 7, 2, 18, 2, 19, 2, 52, 2, 18, 2, 52, 2, 18, 2, 18, 2, 5, 2, 18, 2, 13, 2, 5, 2, 18, 2, 18, 2, 52, 2, 54, 2, 18, 2, 86, 2, 18, 2, 18, 2, 7, 2, 18, 2, 7, 2, 52, 2, 18, 2, 5, 2, 18, 2, 18, 2, 54, 2, 13, 2, 18, 2, 18, 2, 52, 2, 18, 2, 56, 2, 15, 2, 18, 2, 18, 2, 5, 2, 86, 2, 18, 2, 52, 2, 18, 2, 18, 2, 5, 2, 56, 2, 18, 2, 18, 2, 15, 2, 18, 2, 52, 2, 13, 2, 18, 2, 54, 2, 18, 2, 18, 2, 5, 2, 18, 2, 86, 2, 52, 2, 18, 2, 18, 2, 13, 2, 5, 2, 18, 2, 7, 2, 18, 2, 18, 2, 52] 0 = true := by decide +kernel
theorem tab_3_2 : tabC 3 2 [true, false, false, false] [[true, false, false]] [2, 9, 18, 2, 34, 7, 2, 18, 7] 0 = true := by decide +kernel
theorem tab_3_3 : tabC 3 3 [true, true, false, true, false] [[true, true, false, true], [true, false]] [2, 18, 34, 2, 34, 18, 2, 7, 13, 2, 34, 11, 2, 18, 9, 2, 7, 18, 2, 7, 18, 2, 7, 34, 2, 18, 9] 0 = true := by decide +kernel
theorem tab_3_4 : tabC 3 4 [true, false, true, false, false, false, false] [[true, false, true, false, false, false], [true, false, false, false, false]] [2, 84, 18, 2, 34, 7, 2, 18, 7, 2, 18, 25, 2, 9, 18, 2, 11, 34, 2, 20, 9, 2, 18, 34, 2, 34, 18, 2, 34, 7, 2, 18, 20, 2, 9, 18, 2, 21, 18, 2, 11, 34, 2, 18, 7, 2, 18, 34, 2, 34, 18, 2, 132, 7, 2, 18, 7, 2, 9, 18, 2, 34, 20, 2, 21, 34, 2, 18, 7, 2, 9, 18, 2, 34, 18, 2, 84, 7, 2, 18, 34] 0 = true := by decide +kernel
theorem tab_3_5 : tabC 3 5 [true, true, true, true, false, false, true, false] [[true, true, true, true, false, false, true], [true, false, true, true, false]] [2, 18, 34, 2, 34, 18, 2, 7, 13, 2, 34, 132, 2, 18, 9, 2, 20, 18, 2, 84, 18, 2, 7, 34, 2, 18, 20, 2, 34, 18, 2, 7, 13, 2, 18, 34, 2, 18, 9, 2, 132, 18, 2, 34, 13, 2, 7, 34, 2, 18, 84, 2, 7, 18, 2, 132, 84, 2, 18, 34, 2, 34, 18, 2, 7, 18, 2, 34, 11, 2, 18, 9, 2, 18, 9, 2, 7, 18, 2, 9, 34, 2, 34, 11, 2, 18, 9, 2, 7, 18, 2, 7, 18, 2, 7, 34, 2, 18, 9, 2, 18, 34, 2, 34, 18, 2, 20, 132, 2, 18, 20, 2, 7, 18, 2, 34, 84, 2, 84, 34, 2, 18, 132, 2, 7, 18, 2, 34, 18, 2, 7, 13, 2, 18, 34, 2, 7, 18, 2, 34, 20, 2, 18, 13, 2, 18, 9, 2, 7, 18, 2, 132, 34, 2, 7, 13, 2, 18, 34, 2, 34, 18, 2, 7, 18, 2, 7, 34, 2, 18, 11, 2, 18, 34, 2, 34, 18, 2, 84, 20, 2, 34, 11, 2, 18, 9, 2, 7, 18, 2, 20, 34, 2, 18, 9, 2, 132, 18, 2, 34, 18, 2, 7, 13, 2, 18, 34, 2, 18, 132, 2, 84, 18, 2, 34, 11, 2, 18, 9, 2, 20, 18, 2, 7, 34, 2, 7, 13, 2, 18, 34, 2, 34, 18, 2, 15, 18, 2, 34, 11, 2, 18, 84] 0 = true := by decide +kernel
theorem tab_5_2 : tabC 5 2 [true, true, false, false, false] [[true, true, false, false], [true, false, false, false]] [2, 34, 13, 15, 18, 2, 15, 11, 34, 50, 2, 18, 50, 11, 17, 2, 66, 18, 11, 13, 2, 13, 11, 18, 34] 0 = true := by decide +kernel
theorem tab_5_3 : tabC 5 3 [true, true, true, true, true, false, false] [[true, true, true, true, true, false], [true, false, false]] [2, 18, 50, 34, 66, 2, 19, 18, 66, 13, 2, 13, 34, 18, 15, 2, 50, 11, 11, 18, 2, 34, 11, 11, 50, 2, 15, 11, 50, 34, 2, 18, 66, 11, 13, 2, 66, 18, 34, 50, 2, 13, 50, 18, 17, 2, 13, 34, 11, 18, 2, 13, 66, 11, 18, 2, 66, 34, 11, 15, 2, 18, 11, 11, 34, 2, 34, 18, 50, 66, 2, 50, 11, 18, 17, 2, 34, 11, 18, 15, 2, 13, 11, 34, 18, 2, 50, 11, 11, 66, 2, 18, 34, 66, 50, 2, 15, 18, 11, 34, 2, 50, 18, 11, 13, 2, 13, 11, 18, 34, 2, 34, 50, 66, 18, 2, 15, 66, 34, 19, 2, 18, 11, 50, 13] 0 = true := by decide +kernel
theorem tab_7_2 : tabC 7 2 [true, true, false, false, false, false] [[true, true, false, false, false], [true, false, false, false, false]] [2, 19, 17, 34, 17, 50, 18, 2, 50, 66, 15, 21, 34, 21, 2, 18, 21, 15, 50, 15, 66, 2, 23, 18, 66, 82, 15, 23, 2, 17, 82, 18, 34, 15, 17, 2, 98, 17, 15, 18, 15, 34, 2, 34, 50, 15, 19, 18, 19] 0 = true := by decide +kernel
theorem tab_11_2 : tabC 11 2 [true, true, true, true, false, false, false] [[true, true, true, true, false, false], [true, false, true, false, false, false], [true, true, false, false, false]] [2, 31, 50, 27, 29, 25, 66, 34, 82, 27, 18, 2, 31, 82, 98, 27, 50, 27, 23, 23, 34, 66, 2, 18, 33, 66, 29, 31, 23, 82, 50, 98, 29, 2, 82, 18, 33, 98, 114, 23, 66, 23, 25, 25, 2, 114, 23, 18, 34, 35, 82, 23, 33, 25, 98, 2, 25, 23, 27, 18, 98, 34, 35, 114, 130, 25, 2, 25, 23, 27, 114, 18, 130, 25, 34, 50, 37, 2, 50, 23, 130, 146, 27, 18, 23, 25, 29, 34, 2, 34, 146, 27, 50, 66, 23, 18, 23, 25, 29, 2, 162, 29, 34, 25, 27, 23, 50, 18, 66, 25, 2, 29, 66, 82, 25, 34, 25, 23, 23, 18, 50] 0 = true := by decide +kernel
theorem tab_13_2 : tabC 13 2 [true, false, true, false, true, false, false, false] [[true, false, true, false, true, false, false], [true, true, true, false, false, false], [true, true, false, false, false]] [2, 82, 31, 98, 50, 29, 29, 31, 35, 34, 66, 31, 18, 2, 66, 27, 35, 31, 31, 82, 50, 35, 98, 114, 34, 35, 2, 18, 98, 33, 114, 66, 27, 27, 33, 37, 50, 82, 33, 2, 37, 18, 82, 29, 37, 27, 27, 98, 66, 37, 114, 130, 2, 98, 27, 18, 34, 114, 27, 130, 82, 29, 29, 27, 39, 2, 39, 130, 146, 18, 39, 34, 98, 31, 39, 29, 27, 114, 2, 31, 27, 29, 41, 18, 114, 27, 34, 50, 130, 27, 146, 2, 33, 27, 31, 29, 130, 18, 27, 146, 162, 34, 27, 50, 2, 29, 50, 66, 146, 29, 162, 18, 33, 29, 31, 27, 34, 2, 34, 27, 162, 178, 50, 27, 66, 18, 35, 29, 27, 31, 2, 31, 178, 34, 35, 31, 27, 27, 50, 18, 31, 66, 82, 2, 194, 66, 29, 82, 34, 27, 27, 29, 33, 18, 50, 29, 2, 50, 27, 33, 29, 29, 66, 34, 33, 82, 98, 18, 33] 0 = true := by decide +kernel
end Go.Proofs.YtgdmlmhpineibaaGreat
