/- Plain: the power of p is additive. -/
/- Plain: the dual of an image is the image of the dual under the map with the inverse factors. -/
import Derived.Test.YtgdmlmhpineibaaGreatZd08
import Derived.Test.YtgdmlmhpineibaaGreatZd24
import Derived.Test.YtgdmlmhpineibaaGreatZd44
import Derived.Test.YtgdmlmhpineibaaGreatZd50
import Derived.Test.YtgdmlmhpineibaaGreatZd51
namespace Go.Proofs.YtgdmlmhpineibaaGreat
set_option linter.unusedVariables false
set_option linter.unusedSimpArgs false

def choose : Nat → Nat → Nat
  | _, 0 => 1
  | 0, _ + 1 => 0
  | n + 1, k + 1 => choose n k + choose n (k + 1)
theorem choose_zero (n : Nat) : choose n 0 = 1 := by cases n <;> rfl
theorem choose_succ (n k : Nat) : choose (n + 1) (k + 1) = choose n k + choose n (k + 1) := rfl
theorem choose_big : ∀ (n k : Nat), n < k → choose n k = 0
  | _, 0, h => by omega
  | 0, k + 1, _ => rfl
  | n + 1, k + 1, h => by rw [choose_succ, choose_big n k (by omega), choose_big n (k + 1) (by omega)]
theorem choose_self : ∀ n, choose n n = 1
  | 0 => rfl
  | n + 1 => by rw [choose_succ, choose_self n, choose_big n (n + 1) (by omega)]
theorem choose_mul : ∀ (n k : Nat), (k + 1) * choose (n + 1) (k + 1) = (n + 1) * choose n k
  | 0, 0 => rfl
  | 0, k + 1 => by simp [choose]
  | n + 1, 0 => by
    have ih := choose_mul n 0
    rw [choose_zero] at ih
    rw [choose_succ (n + 1) 0, choose_zero]
    omega
  | n + 1, k + 1 => by
    have h1 := choose_mul n k
    have h2 := choose_mul n (k + 1)
    rw [choose_succ (n + 1) (k + 1), Nat.mul_add, h2]
    have h3 := choose_succ n k
    have h4 : (k + 1 + 1) * choose (n + 1) (k + 1) = (k + 1) * choose (n + 1) (k + 1) + choose (n + 1) (k + 1) := by rw [Nat.add_mul]; omega
    rw [h4, h1, h3]
    rw [Nat.add_mul (n + 1) 1, Nat.mul_add (n + 1)]
    omega
theorem choose_dvd' {p : Nat} (hp : 2 ≤ p) (h : prB p = true) {k : Nat} (h1 : 1 ≤ k) (h2 : k < p) : p ∣ choose p k := by
  obtain ⟨j, rfl⟩ : ∃ j, k = j + 1 := ⟨k - 1, by omega⟩
  obtain ⟨q, rfl⟩ : ∃ q, p = q + 1 := ⟨p - 1, by omega⟩
  have h3 := choose_mul q j
  have h4 : q + 1 ∣ (j + 1) * choose (q + 1) (j + 1) := ⟨_, h3⟩
  have hg : Nat.gcd (q + 1) (j + 1) = 1 := by
    have g1 : Nat.gcd (q + 1) (j + 1) ∣ q + 1 := Nat.gcd_dvd_left _ _
    have g2 : Nat.gcd (q + 1) (j + 1) ∣ j + 1 := Nat.gcd_dvd_right _ _
    have g3 := Nat.le_of_dvd (by omega) g2
    have g4 : 0 < Nat.gcd (q + 1) (j + 1) := Nat.gcd_pos_of_pos_left _ (by omega)
    apply Classical.byContradiction
    intro hne
    exact (prB_iff hp).1 h (Nat.gcd (q + 1) (j + 1)) (by omega) (by omega) (Nat.mod_eq_zero_of_dvd g1)
  exact Nat.Coprime.dvd_of_dvd_mul_left hg h4
theorem ks_trunc' {p m : Nat} (hp : 1 ≤ p) {g : Nat → Nat} {K : Nat} : ∀ n, K ≤ n → (∀ j, K ≤ j → j < n → g j = 0) → ks p m g n = ks p m g K
  | 0, h, _ => by
    obtain rfl : K = 0 := by omega
    rfl
  | n + 1, h, hz => by
    by_cases e : K = n + 1
    · rw [e]
    · show kadd p m (ks p m g n) (g n) = _
      rw [hz n (by omega) (by omega), kadd_zero hp (ks_lt hp _ _)]
      exact ks_trunc' hp n (by omega) fun j h1 h2 => hz j h1 (by omega)
section
variable {p m : Nat} {low : Vc}
/-- A multiple. -/
def nsm (p m : Nat) (x : Nat) : Nat → Nat
  | 0 => 0
  | c + 1 => kadd p m (nsm p m x c) x
theorem nsm_lt (hp : 1 ≤ p) (x : Nat) : ∀ c, nsm p m x c < p ^ m
  | 0 => Nat.pow_pos (by omega)
  | c + 1 => kadd_lt hp _ _
theorem nsm_add (hp : 1 ≤ p) (x c : Nat) : ∀ d, nsm p m x (c + d) = kadd p m (nsm p m x c) (nsm p m x d)
  | 0 => by rw [Nat.add_zero]; exact (kadd_zero hp (nsm_lt hp x c)).symm
  | d + 1 => by
    show kadd p m (nsm p m x (c + d)) x = kadd p m (nsm p m x c) (kadd p m (nsm p m x d) x)
    rw [nsm_add hp x c d, kadd_assoc hp]
theorem nsm_mul (hp : 1 ≤ p) (x y : Nat) : ∀ c, kmul p m low (nsm p m x c) y = nsm p m (kmul p m low x y) c
  | 0 => kmul_zero hp y
  | c + 1 => by
    show kmul p m low (kadd p m (nsm p m x c) x) y = kadd p m (nsm p m (kmul p m low x y) c) (kmul p m low x y)
    rw [kmul_kadd hp, nsm_mul hp x y c]
theorem nsm_rep (hp : 1 ≤ p) (x : Nat) : ∀ c : Nat, nsm p m x c = rep p m (fun j => (c : Int) * dig p m x j)
  | 0 => by
    show 0 = _
    rw [show (fun j => ((0 : Nat) : Int) * dig p m x j) = fun _ => 0 from by funext j; simp]
    exact (rep_zero hp).symm
  | c + 1 => by
    show kadd p m (nsm p m x c) x = _
    rw [nsm_rep hp x c]
    unfold kadd
    refine rep_congr fun j => ?_
    have h := dig_rep_eqm (m := m) hp (v := fun j => (c : Int) * dig p m x j) (fun j hj => by show (c : Int) * dig p m x j = 0; rw [dig_sup p m x j hj]; simp) j
    have h2 := eqm_add h (rfl : dig p m x j % (p : Int) = dig p m x j % (p : Int))
    show (dig p m (rep p m _) j + dig p m x j) % (p : Int) = ((c + 1 : Nat) : Int) * dig p m x j % (p : Int)
    rw [h2]
    congr 1
    rw [Int.natCast_add, Int.add_mul]; simp
theorem nsm_p (hp : 1 ≤ p) (x : Nat) : nsm p m x p = 0 := by
  rw [nsm_rep hp]
  have : rep p m (fun j => (p : Int) * dig p m x j) = rep p m (fun _ => 0) := rep_congr fun j => by
    show (p : Int) * dig p m x j % (p : Int) = 0 % (p : Int)
    rw [Int.mul_emod_right]; simp
  rw [this, rep_zero hp]
theorem nsm_dvd (hp : 1 ≤ p) (x : Nat) {c : Nat} (h : p ∣ c) : nsm p m x c = 0 := by
  obtain ⟨d, rfl⟩ := h
  induction d with
  | zero => rfl
  | succ d ih => rw [Nat.mul_add, Nat.mul_one, nsm_add hp, ih, nsm_p hp, kadd_zero hp (Nat.pow_pos (by omega))]
def bnF (p m : Nat) (low : Vc) (a b n k : Nat) : Nat := nsm p m (kmul p m low (kpw p m low a (n - k)) (kpw p m low b k)) (choose n k)
theorem bn_step (hp : 2 ≤ p) (hm : 1 ≤ m) (a b n : Nat) : ∀ K, ks p m (bnF p m low a b (n + 1)) (K + 1) = kadd p m (kmul p m low (ks p m (bnF p m low a b n) (K + 1)) a) (kmul p m low (ks p m (bnF p m low a b n) K) b)
  | 0 => by
    have hq : 0 < p ^ m := Nat.pow_pos (by omega)
    show kadd p m 0 (bnF p m low a b (n + 1) 0) = kadd p m (kmul p m low (kadd p m 0 (bnF p m low a b n 0)) a) (kmul p m low 0 b)
    rw [kmul_zero (by omega), kadd_zero (by omega) (kmul_lt (by omega) _ _)]
    have e : ∀ n, bnF p m low a b n 0 = kpw p m low a n := fun n => by
      unfold bnF
      rw [choose_zero]
      show kadd p m 0 (kmul p m low (kpw p m low a n) 1) = _
      rw [kmul_one hp hm (kpw_lt hp hm _ _), zero_kadd (by omega) (kpw_lt hp hm _ _)]
    rw [e, e, zero_kadd (by omega) (kpw_lt hp hm _ _), zero_kadd (by omega) (kpw_lt hp hm _ _)]; rfl
  | K + 1 => by
    have ih := bn_step hp hm a b n K
    have e1 : kmul p m low (bnF p m low a b n K) b = nsm p m (kmul p m low (kpw p m low a (n - K)) (kpw p m low b (K + 1))) (choose n K) := by
      unfold bnF
      rw [nsm_mul (by omega), kmul_assoc (by omega)]; rfl
    have e2 : kmul p m low (bnF p m low a b n (K + 1)) a = nsm p m (kmul p m low (kpw p m low a (n - K)) (kpw p m low b (K + 1))) (choose n (K + 1)) := by
      unfold bnF
      rw [nsm_mul (by omega)]
      by_cases h : K + 1 ≤ n
      · rw [kmul_assoc (by omega), kmul_comm (kpw p m low b (K + 1)) a, ← kmul_assoc (by omega), show n - K = n - (K + 1) + 1 from by omega]; rfl
      · rw [choose_big n (K + 1) (by omega)]; rfl
    have e3 : bnF p m low a b (n + 1) (K + 1) = kadd p m (kmul p m low (bnF p m low a b n K) b) (kmul p m low (bnF p m low a b n (K + 1)) a) := by
      rw [e1, e2]
      unfold bnF
      rw [choose_succ, nsm_add (by omega), show n + 1 - (K + 1) = n - K from by omega]
    show kadd p m (ks p m (bnF p m low a b (n + 1)) (K + 1)) (bnF p m low a b (n + 1) (K + 1)) = kadd p m (kmul p m low (kadd p m (ks p m (bnF p m low a b n) (K + 1)) (bnF p m low a b n (K + 1))) a) (kmul p m low (kadd p m (ks p m (bnF p m low a b n) K) (bnF p m low a b n K)) b)
    rw [ih, e3, kmul_kadd (by omega), kmul_kadd (by omega)]
    rw [kadd_comm (kmul p m low (bnF p m low a b n K) b), kadd4 (by omega)]
theorem bn_thm (hp : 2 ≤ p) (hm : 1 ≤ m) (a b : Nat) : ∀ n, kpw p m low (kadd p m a b) n = ks p m (bnF p m low a b n) (n + 1)
  | 0 => by
    show 1 = kadd p m 0 (bnF p m low a b 0 0)
    have e : bnF p m low a b 0 0 = 1 := by
      show kadd p m 0 (kmul p m low 1 1) = 1
      rw [kmul_one hp hm (one_lt_q hp hm), zero_kadd (by omega) (one_lt_q hp hm)]
    rw [e, zero_kadd (by omega) (one_lt_q hp hm)]
  | n + 1 => by
    rw [bn_step hp hm]
    have e : ks p m (bnF p m low a b n) (n + 1 + 1) = ks p m (bnF p m low a b n) (n + 1) := by
      show kadd p m (ks p m (bnF p m low a b n) (n + 1)) (bnF p m low a b n (n + 1)) = _
      have : bnF p m low a b n (n + 1) = 0 := by
        unfold bnF; rw [choose_big n (n + 1) (by omega)]; rfl
      rw [this, kadd_zero (by omega) (ks_lt (by omega) _ _)]
    rw [e, ← bn_thm hp hm a b n, ← kmul_kadd_r (by omega)]; rfl
theorem kpw_add_p (hp : 2 ≤ p) (hm : 1 ≤ m) (hpr : prB p = true) (a b : Nat) : kpw p m low (kadd p m a b) p = kadd p m (kpw p m low a p) (kpw p m low b p) := by
  rw [bn_thm hp hm]
  show kadd p m (ks p m (bnF p m low a b p) p) (bnF p m low a b p p) = _
  have e1 : bnF p m low a b p p = kpw p m low b p := by
    unfold bnF
    rw [choose_self, Nat.sub_self]
    show kadd p m 0 (kmul p m low 1 _) = _
    rw [one_kmul hp hm (kpw_lt hp hm _ _), zero_kadd (by omega) (kpw_lt hp hm _ _)]
  have e2 : ks p m (bnF p m low a b p) p = kpw p m low a p := by
    rw [ks_trunc' (by omega) (g := bnF p m low a b p) (K := 1) p (by omega) fun j h1 h2 => nsm_dvd (by omega) _ (choose_dvd' hp hpr (by omega) h2)]
    show kadd p m 0 (nsm p m (kmul p m low (kpw p m low a (p - 0)) 1) (choose p 0)) = _
    rw [choose_zero, Nat.sub_zero, kmul_one hp hm (kpw_lt hp hm _ _)]
    show kadd p m 0 (kadd p m 0 (kpw p m low a p)) = _
    rw [zero_kadd (by omega) (kadd_lt (by omega) _ _), zero_kadd (by omega) (kpw_lt hp hm _ _)]
  rw [e1, e2]
theorem frb_addx (hp : 2 ≤ p) (hm : 1 ≤ m) (hpr : prB p = true) (a b : Nat) : ∀ k, frb p m low (kadd p m a b) k = kadd p m (frb p m low a k) (frb p m low b k)
  | 0 => rfl
  | k + 1 => by
    show kpw p m low (frb p m low (kadd p m a b) k) p = _
    rw [frb_addx hp hm hpr a b k, kpw_add_p hp hm hpr]; rfl
theorem frb_ks (hp : 2 ≤ p) (hm : 1 ≤ m) (hpr : prB p = true) (g : Nat → Nat) (k : Nat) : ∀ n, frb p m low (ks p m g n) k = ks p m (fun j => frb p m low (g j) k) n
  | 0 => frb_zero hp hm k
  | n + 1 => by
    show frb p m low (kadd p m (ks p m g n) (g n)) k = _
    rw [frb_addx hp hm hpr, frb_ks hp hm hpr g k n]; rfl
end
end Go.Proofs.YtgdmlmhpineibaaGreat
namespace Go.Proofs.YtgdmlmhpineibaaGreat
set_option linter.unusedVariables false
set_option linter.unusedSimpArgs false
open Go.RowKit

section
variable {p m : Nat} {ml pl sl sl' : List Int} {fr N : Nat}
theorem bck_add {fr : Nat} (hm : 1 ≤ m) (hfr : fr < m) : (bckN m fr + fr) % m = 0 := by
  unfold bckN
  by_cases h : fr = 0
  · subst h; simp
  · have e : (m - fr) % m = m - fr := Nat.mod_eq_of_lt (by omega)
    rw [e, Nat.sub_add_cancel (by omega)]; simp
theorem frb_bck {low : Vc} (hp : 2 ≤ p) (hm : 1 ≤ m) (hF : IsF p m low) {fr : Nat} (hfr : fr < m) {x : Nat} (hx : x < p ^ m) : frb p m low (frb p m low x (bckN m fr)) fr = x := by
  rw [frb_add, ← frb_mod hp hm hF hx, bck_add hm hfr]; rfl
theorem bck_frb {low : Vc} (hp : 2 ≤ p) (hm : 1 ≤ m) (hF : IsF p m low) {fr : Nat} (hfr : fr < m) {x : Nat} (hx : x < p ^ m) : frb p m low (frb p m low x fr) (bckN m fr) = x := by
  rw [frb_add, Nat.add_comm, ← frb_mod hp hm hF hx, bck_add hm hfr]; rfl
/-- A word pulled back by a map. -/
def pulB (p m : Nat) (ml pl sl : List Int) (fr : Nat) (x : Nat → Int) (i : Nat) : Int := ((frb p m (lw ml) (kmul p m (lw ml) (kin (p ^ m) (sl.getD i 0)) (kin (p ^ m) (x (piF pl i)))) (bckN m fr) : Nat) : Int)
theorem pulB_frb (h : MonOK p m ml pl sl fr N) (x : Nat → Int) (i : Nat) : frb p m (lw ml) (kin (p ^ m) (pulB p m ml pl sl fr x i)) fr = kmul p m (lw ml) (kin (p ^ m) (sl.getD i 0)) (kin (p ^ m) (x (piF pl i))) := by
  have hk := kmul_lt (m := m) (low := lw ml) (show 1 ≤ p by have := h.hp; omega) (kin (p ^ m) (sl.getD i 0)) (kin (p ^ m) (x (piF pl i)))
  unfold pulB
  rw [kin_of (frb_lt h.hp h.hm hk _), frb_bck h.hp h.hm h.hF h.frm hk]
theorem frb_zero_iff {low : Vc} (hp : 2 ≤ p) (hm : 1 ≤ m) (hF : IsF p m low) {z : Nat} (hz : z < p ^ m) (k : Nat) : frb p m low z k = 0 ↔ z = 0 := by
  constructor
  · intro h
    apply Classical.byContradiction
    intro hne
    have := frb_pos hp hm hF (x := z) (by omega) hz k
    omega
  · intro h; rw [h]; exact frb_zero hp hm k
/-- The product of an image with a word. -/
theorem dt_img (h : MonOK p m ml pl sl fr N) (hpr : prB p = true) (t : List Int) (x : Nat → Int) : dt p m ml N (imgF p m ml pl sl fr t N) x = frb p m (lw ml) (dt p m ml N (fun j => t.getD j 0) (pulB p m ml pl sl fr x)) fr := by
  have hp1 : 1 ≤ p := by have := h.hp; omega
  unfold imgF
  rw [dt_plc hp1 h.inj, dt_ks, dt_ks, frb_ks h.hp h.hm hpr]
  refine ks_congr N fun i hi => ?_
  have hk : ∀ a b, kmul p m (lw ml) a b < p ^ m := fun a b => kmul_lt hp1 a b
  rw [frb_mul h.hp h.hm, pulB_frb h]
  unfold vF
  rw [kin_of (hk _ _), ← kmul_assoc hp1, kmul_comm (kin (p ^ m) (sl.getD i 0))]
/-- The factors are inverse. -/
def InvS (p m : Nat) (ml : List Int) (N : Nat) (sl sl' : List Int) : Prop := ∀ i, i < N → kmul p m (lw ml) (kin (p ^ m) (sl'.getD i 0)) (kin (p ^ m) (sl.getD i 0)) = 1
theorem dt_two (h : MonOK p m ml pl sl fr N) (h' : MonOK p m ml pl sl' fr N) (hpr : prB p = true) (hi : InvS p m ml N sl sl') (f x : Nat → Int) : dt p m ml N f x = frb p m (lw ml) (dt p m ml N (pulB p m ml pl sl' fr f) (pulB p m ml pl sl fr x)) fr := by
  have hp1 : 1 ≤ p := by have := h.hp; omega
  have hk : ∀ a b, kmul p m (lw ml) a b < p ^ m := fun a b => kmul_lt hp1 a b
  have hq0 : 0 < p ^ m := Nat.pow_pos (by omega)
  rw [dt_ks, dt_ks, frb_ks h.hp h.hm hpr, ← h.inj.sum hp1 (g := fun j => kmul p m (lw ml) (kin (p ^ m) (f j)) (kin (p ^ m) (x j))) fun j => hk _ _]
  refine ks_congr N fun i hi' => ?_
  rw [frb_mul h.hp h.hm, pulB_frb h, pulB_frb h']
  generalize kin (p ^ m) (f (piF pl i)) = a
  have hx : kin (p ^ m) (x (piF pl i)) < p ^ m := kin_lt hq0 _
  have hs := hi i hi'
  generalize kin (p ^ m) (x (piF pl i)) = b at hx ⊢
  generalize kin (p ^ m) (sl'.getD i 0) = s' at hs ⊢
  generalize kin (p ^ m) (sl.getD i 0) = s at hs ⊢
  rw [kmul_comm s' a, kmul_assoc hp1, ← kmul_assoc hp1 s' s b, hs, one_kmul h.hp h.hm hx]
/-- Entries out of range count as zero. -/
def nrm (p m : Nat) (x : Nat → Int) (j : Nat) : Int := ((kin (p ^ m) (x j) : Nat) : Int)
theorem kin_kin {q : Nat} (hq : 1 ≤ q) (x : Int) : kin q ((kin q x : Nat) : Int) = kin q x := kin_of (kin_lt hq x)
theorem dt_nrm_r (hp : 2 ≤ p) (f x : Nat → Int) : dt p m ml N f (nrm p m x) = dt p m ml N f x := by
  rw [dt_ks, dt_ks]
  exact ks_congr N fun j _ => by unfold nrm; rw [kin_kin (Nat.pow_pos (by omega))]
theorem dt_nrm_l (hp : 2 ≤ p) (f x : Nat → Int) : dt p m ml N (nrm p m f) x = dt p m ml N f x := by
  rw [dt_symm, dt_nrm_r hp, dt_symm]
theorem sol_nrm (hp : 2 ≤ p) {R : Nat} {a : Nat → Nat → Int} {x : Nat → Int} : Sol p m ml N R a (nrm p m x) ↔ Sol p m ml N R a x :=
  ⟨fun h i hi => by rw [← dt_nrm_r hp]; exact h i hi, fun h i hi => by rw [dt_nrm_r hp]; exact h i hi⟩
theorem cl_nrm (hp : 2 ≤ p) {R : Nat} {a : Nat → Nat → Int} {f : Nat → Int} : Cl p m ml N R a (nrm p m f) ↔ Cl p m ml N R a f :=
  ⟨fun h x hx => by rw [← dt_nrm_l hp]; exact h x hx, fun h x hx => by rw [dt_nrm_l hp]; exact h x hx⟩
theorem nrm_rng (hp : 2 ≤ p) (x : Nat → Int) (j : Nat) : 0 ≤ nrm p m x j ∧ nrm p m x j < ((p ^ m : Nat) : Int) := by
  have := kin_lt (q := p ^ m) (Nat.pow_pos (by omega)) (x j)
  unfold nrm; omega
/-- What KerF says of any word. -/
theorem ker_all (hp : 2 ≤ p) {R : Nat} {b : Nat → Nat → Int} {rows : List (List Int)} (h : ∀ f, (∀ j, j < N → 0 ≤ f j ∧ f j < ((p ^ m : Nat) : Int)) → (Sol p m ml N R b f ↔ Cl p m ml N rows.length (rowsF rows) f)) (f : Nat → Int) : Sol p m ml N R b f ↔ Cl p m ml N rows.length (rowsF rows) f := by
  rw [← sol_nrm hp, ← cl_nrm hp]
  exact h _ fun j _ => nrm_rng hp f j
theorem rowsF_imLg {l1 : List (List Int)} {i j : Nat} (hi : i < l1.length) (hj : j < N) : rowsF (imL p m ml pl sl fr N l1 l1.length) i j = imgF p m ml pl sl fr (l1.getD i []) N j := by
  have e : (imL p m ml pl sl fr N l1 l1.length).getD i [] = il N (imgF p m ml pl sl fr (l1.getD i []) N) := by
    unfold imL
    rw [List.getD_eq_getElem?_getD, List.getElem?_map, List.getElem?_take_of_lt hi, List.getElem?_eq_getElem hi, List.getD_eq_getElem?_getD, List.getElem?_eq_getElem hi]
    rfl
  show ((imL p m ml pl sl fr N l1 l1.length).getD i []).getD j 0 = _
  rw [e, eil_getD hj]
/-- A word is orthogonal to the images exactly if its pull-back is orthogonal to the rows. -/
theorem sol_img (h : MonOK p m ml pl sl fr N) (hpr : prB p = true) {l1 : List (List Int)} (x : Nat → Int) : Sol p m ml N (imL p m ml pl sl fr N l1 l1.length).length (rowsF (imL p m ml pl sl fr N l1 l1.length)) x ↔ Sol p m ml N l1.length (rowsF l1) (pulB p m ml pl sl fr x) := by
  rw [imL_len (Nat.le_refl _)]
  have e : ∀ i, i < l1.length → dt p m ml N (rowsF (imL p m ml pl sl fr N l1 l1.length) i) x = frb p m (lw ml) (dt p m ml N (rowsF l1 i) (pulB p m ml pl sl fr x)) fr := fun i hi => by
    rw [dt_congr (fun j hj => rowsF_imLg hi hj) fun _ _ => rfl, dt_img h hpr]; rfl
  constructor
  · intro hs i hi
    have := hs i hi
    rw [e i hi] at this
    exact (frb_zero_iff h.hp h.hm h.hF (dt_lt h.hp _ _) fr).1 this
  · intro hs i hi
    rw [e i hi]
    exact (frb_zero_iff h.hp h.hm h.hF (dt_lt h.hp _ _) fr).2 (hs i hi)
/-- The word that is pulled back to a given one. -/
def psh (p m : Nat) (ml pl sl' : List Int) (fr N : Nat) (g : Nat → Int) : Nat → Int := plc (piF pl) (fun i => ((kmul p m (lw ml) (kin (p ^ m) (sl'.getD i 0)) (frb p m (lw ml) (kin (p ^ m) (g i)) fr) : Nat) : Int)) N
theorem pulB_psh (h : MonOK p m ml pl sl fr N) (hi : InvS p m ml N sl sl') (g : Nat → Int) {i : Nat} (hiN : i < N) : pulB p m ml pl sl fr (psh p m ml pl sl' fr N g) i = nrm p m g i := by
  have hp1 : 1 ≤ p := by have := h.hp; omega
  have hq0 : 0 < p ^ m := Nat.pow_pos (by omega)
  have hb := frb_lt (p := p) (m := m) (low := lw ml) h.hp h.hm (kin_lt hq0 (g i)) fr
  unfold pulB psh
  rw [plc_at h.inj _ N (Nat.le_refl _) i hiN, kin_of (kmul_lt hp1 _ _), ← kmul_assoc hp1, kmul_comm (kin (p ^ m) (sl.getD i 0)), hi i hiN, one_kmul h.hp h.hm hb, bck_frb h.hp h.hm h.hF h.frm (kin_lt hq0 _)]
  rfl
/-- In the space of the images exactly if the pull-back (by the inverse factors) is in the space. -/
theorem cl_img (h : MonOK p m ml pl sl fr N) (h' : MonOK p m ml pl sl' fr N) (hpr : prB p = true) (hi : InvS p m ml N sl sl') {l1 : List (List Int)} (f : Nat → Int) : Cl p m ml N (imL p m ml pl sl fr N l1 l1.length).length (rowsF (imL p m ml pl sl fr N l1 l1.length)) f ↔ Cl p m ml N l1.length (rowsF l1) (pulB p m ml pl sl' fr f) := by
  constructor
  · intro hc g hg
    have h1 : Sol p m ml N l1.length (rowsF l1) (pulB p m ml pl sl fr (psh p m ml pl sl' fr N g)) := fun i hi' => by
      rw [dt_congr (fun _ _ => rfl) fun j hj => pulB_psh h hi g hj, dt_nrm_r h.hp]
      exact hg i hi'
    have h2 := hc _ ((sol_img h hpr _).2 h1)
    rw [dt_two h h' hpr hi, dt_congr (fun _ _ => rfl) fun j hj => pulB_psh h hi g hj, dt_nrm_r h.hp] at h2
    exact (frb_zero_iff h.hp h.hm h.hF (dt_lt h.hp _ _) fr).1 h2
  · intro hc x hx
    rw [dt_two h h' hpr hi]
    exact (frb_zero_iff h.hp h.hm h.hF (dt_lt h.hp _ _) fr).2 (hc _ ((sol_img h hpr _).1 hx))
theorem cl_sol {R R' : Nat} {a a' : Nat → Nat → Int} (h : ∀ x, Sol p m ml N R a x ↔ Sol p m ml N R' a' x) (f : Nat → Int) : Cl p m ml N R a f ↔ Cl p m ml N R' a' f :=
  ⟨fun hc x hx => hc x ((h x).2 hx), fun hc x hx => hc x ((h x).1 hx)⟩
/-- The law. -/
theorem dual_law (h : MonOK p m ml pl sl fr N) (h' : MonOK p m ml pl sl' fr N) (hpr : prB p = true) (hi : InvS p m ml N sl sl') {l1 X ky kd : List (List Int)}
    {pv1 pv2 : List Nat} {a1 a2 : Nat → Nat → Int} (hX : ElO p m ml N (imL p m ml pl sl fr N l1 l1.length).length (rowsF (imL p m ml pl sl fr N l1 l1.length)) a1 pv1) (hXr : rowsL N pv1.length a1 = X)
    (hky : KerF p m ml N X ky) (hkd : KerF p m ml N l1 kd) (hz : ElO p m ml N (imL p m ml pl sl' fr N kd kd.length).length (rowsF (imL p m ml pl sl' fr N kd kd.length)) a2 pv2) : ky = rowsL N pv2.length a2 := by
  obtain ⟨Ry, by_, b1, py, _, ey, rfl, sy⟩ := hky
  obtain ⟨Rd, bd, b2, pd, _, ed, rfl, sd⟩ := hkd
  refine (elO_uniq h.hp h.hm (fun f => ?_) ey hz).1
  rw [ker_all h.hp sy f, sol_img h' hpr f, elO_sol h.hp ed, ker_all h.hp sd, ← cl_img h h' hpr hi f]
  refine cl_sol (fun x => ?_) f
  rw [← hXr]
  exact elO_sol h.hp hX x
end
end Go.Proofs.YtgdmlmhpineibaaGreat
