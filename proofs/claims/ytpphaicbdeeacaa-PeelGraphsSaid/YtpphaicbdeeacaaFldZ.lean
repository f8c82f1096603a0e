/- Plain mathematics: where a monic polynomial divides the modulus there is no field. -/
import Derived.Test.YtpphaicbdeeacaaFldU
namespace Go.Proofs.Ytpphaicbdeeacaa
set_option linter.unusedVariables false
set_option linter.unusedSimpArgs false

section
variable {m d : Nat} {f low : Vc}

/-- The value at X in the ring of the divisor. -/
def pj (m d : Nat) (low v : Vc) : Vc := ap d low m v one_

theorem ap_coef_lin {n : Nat} {x : Vc} (a b : Int) (v w : Vc) : ap d low n (fun j => a * v j + b * w j) x = fun t => a * ap d low n v x t + b * ap d low n w x t := by
  induction n with
  | zero => funext t; simp [ap]
  | succ n ih => funext t; simp only [ap]; rw [ih]; grind
theorem ap_coef_add {n : Nat} {x : Vc} (v w : Vc) (b : Int) : ap d low n (fun j => v j + b * w j) x = fun t => ap d low n v x t + b * ap d low n w x t := by
  have := ap_coef_lin (d := d) (low := low) (n := n) (x := x) 1 b v w
  simpa using this

theorem ap_shift1 (v x : Vc) : ∀ n, ap d low (n + 1) (fun j => if j = 0 then 0 else v (j - 1)) x = sX d low (ap d low n v x)
  | 0 => by
    have : sX d low (fun _ => 0) = fun _ => 0 := sX_lin.zero
    simp only [ap]; rw [this]; funext t; simp
  | n + 1 => by
    rw [ap, ap_shift1 v x n]
    rw [ap, sX_lin.add_smul]
    funext t
    simp only [sXn]
    rw [if_neg (by omega), Nat.add_sub_cancel]

theorem pj_sX {p : Int} (hm : 1 ≤ m) (h0 : EqM p (fun t => ap d low m f one_ t + sXn d low m one_ t) (fun _ => 0)) (v : Vc) :
    EqM p (pj m d low (sX m f v)) (sX d low (pj m d low v)) := by
  obtain ⟨n, rfl⟩ : ∃ n, m = n + 1 := ⟨m - 1, by omega⟩
  intro t
  unfold pj
  have e1 : ap d low (n + 1) (sX (n + 1) f v) one_ = ap d low (n + 1) (fun j => (if j = 0 then 0 else v (j - 1)) + (- v n) * f j) one_ := ap_congr fun j hj => by
    unfold sX
    rw [if_pos hj, Nat.add_sub_cancel]
    grind
  rw [e1, ap_coef_add, ap_shift1]
  have e2 : sX d low (ap d low (n + 1) v one_) = fun t => sX d low (ap d low n v one_) t + v n * sXn d low (n + 1) one_ t := by
    rw [ap, sX_lin.add_smul]; rfl
  rw [e2]
  have e3 := h0 t
  dsimp only at e3 ⊢
  generalize sX d low (ap d low n v one_) t = A at *
  generalize ap d low (n + 1) f one_ t = B at *
  generalize sXn d low (n + 1) one_ t = C at *
  obtain ⟨k, hk⟩ := eqm_iff.1 e3
  refine eqm_iff.2 ⟨- v n * k, ?_⟩
  grind

theorem pj_sXn {p : Int} (hm : 1 ≤ m) (h0 : EqM p (fun t => ap d low m f one_ t + sXn d low m one_ t) (fun _ => 0)) (v : Vc) : ∀ k, EqM p (pj m d low (sXn m f k v)) (sXn d low k (pj m d low v))
  | 0 => EqM.refl _ _
  | k + 1 => (pj_sX hm h0 _).trans (EqM.sX (pj_sXn hm h0 v k))

theorem pj_ap {p : Int} (hm : 1 ≤ m) (h0 : EqM p (fun t => ap d low m f one_ t + sXn d low m one_ t) (fun _ => 0)) (y x : Vc) : ∀ n, EqM p (pj m d low (ap m f n y x)) (ap d low n y (pj m d low x))
  | 0 => by
    intro t
    show ap d low m (fun _ => 0) one_ t % p = _
    have e := ap_coef_lin (d := d) (low := low) (n := m) (x := one_) 0 0 (fun _ => 0) (fun _ => 0)
    simp only [Int.zero_mul, Int.add_zero] at e
    rw [e]; rfl
  | n + 1 => by
    intro t
    have e : pj m d low (ap m f (n + 1) y x) = fun t => pj m d low (ap m f n y x) t + y n * pj m d low (sXn m f n x) t := by
      unfold pj
      simp only [ap]
      exact ap_coef_add _ _ _
    rw [e]
    simp only [ap]
    exact eqm_add (pj_ap hm h0 y x n t) (eqm_mul rfl (pj_sXn hm h0 x n t))

theorem pj_congr {p : Int} {v w : Vc} (h : EqM p v w) : EqM p (pj m d low v) (pj m d low w) := EqM.ap (EqM.refl _ _) h m

theorem not_field {p : Nat} (hp : 2 ≤ p) (hd : 1 ≤ d) (hdm : d < m) (hl : ∀ j, 0 ≤ low j ∧ low j < p)
    (h0 : EqM p (fun t => ap d low m f one_ t + sXn d low m one_ t) (fun _ => 0)) : ¬ IsF p m f := fun hF => by
  -- the divisor as an element
  obtain ⟨D, hD⟩ : ∃ D : Vc, (fun j => if j < d then low j else if j = d then 1 else 0) = D := ⟨_, rfl⟩
  have hDs : IsD p m D := by
    rw [← hD]
    refine ⟨fun j hj => by dsimp only; rw [if_neg (by omega), if_neg (by omega)], fun j => ?_⟩
    dsimp only
    split
    · exact hl j
    · split <;> omega
  have hpD : pj m d low D = fun _ => 0 := by
    unfold pj
    have e1 : ap d low m D one_ = ap d low (d + 1) D one_ := by
      have key : ∀ c, ap d low (d + 1 + c) D one_ = ap d low (d + 1) D one_ := by
        intro c
        induction c with
        | zero => rfl
        | succ c ih =>
          rw [← Nat.add_assoc, ap, ih]
          have : D (d + 1 + c) = 0 := by rw [← hD]; dsimp only; rw [if_neg (by omega), if_neg (by omega)]
          rw [this]; funext t; simp
      have := key (m - (d + 1))
      rwa [show d + 1 + (m - (d + 1)) = m by omega] at this
    rw [e1, ap, sXn_top hd]
    have e2 : ap d low d D one_ = ap d low d low one_ := ap_congr fun j hj => by rw [← hD]; dsimp only; rw [if_pos hj]
    have e3 : D d = 1 := by rw [← hD]; dsimp only; rw [if_neg (by omega), if_pos rfl]
    rw [e2, e3]
    funext t
    simp
    omega
  have hdig := dig_cod' (show 1 ≤ p by omega) hDs
  obtain ⟨c, hc⟩ : ∃ c, (cod p m D).toNat = c := ⟨_, rfl⟩
  rw [hc] at hdig
  have hr := cod_rng hDs.2 m
  have hc2 : c < p ^ m := by omega
  have hc1 : 1 ≤ c := by
    rcases Nat.eq_zero_or_pos c with e | e
    · exfalso
      rw [e, dig_zero] at hdig
      have := congrFun hdig d
      rw [← hD] at this
      dsimp only at this
      rw [if_neg (by omega), if_pos rfl] at this
      omega
    · exact e
  obtain ⟨z, _, _, hz⟩ := hF.inv hp (by omega) hc1 hc2
  unfold kmul at hz
  rw [hdig] at hz
  have h1 : EqM p (mulV m f D (dig p m z)) one_ := by
    have := dig_rep_eqm (p := p) (m := m) (by omega) (mulV_sup (low := f) (y := dig p m z) hDs.1)
    rw [hz, dig_one hp (by omega)] at this
    exact this.symm
  have h2 := pj_congr (m := m) (d := d) (low := low) h1
  have h3 := pj_ap (m := m) (by omega) h0 (dig p m z) D m
  rw [hpD, (ap_lin m (dig p m z)).zero] at h3
  have h4 := (h3.symm.trans h2) 0
  have h5 : pj m d low one_ 0 = 1 := by
    unfold pj
    obtain ⟨n, rfl⟩ : ∃ n, m = n + 1 := ⟨m - 1, by omega⟩
    have key : ∀ k, ap d low (k + 1) one_ one_ = one_ := by
      intro k
      induction k with
      | zero => funext t; simp [ap, sXn, one_]
      | succ k ih => rw [ap, ih]; funext t; simp [one_]
    rw [key]; rfl
  rw [h5] at h4
  have : (1 : Int) % (p : Int) = 1 := Int.emod_eq_of_lt (by omega) (by omega)
  simp at h4
  omega
end
end Go.Proofs.Ytpphaicbdeeacaa
