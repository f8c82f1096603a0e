/- Plain: compatible partial maps; a refutation is sound; the search finds the first map. -/
import Derived.Test.YtgdmlmhpineibaaGreatZb42
import Derived.Test.YtgdmlmhpineibaaGreatZb43
import Derived.Test.YtgdmlmhpineibaaGreatZb51
namespace Go.Proofs.YtgdmlmhpineibaaGreat
set_option linter.unusedVariables false
set_option linter.unusedSimpArgs false
open Go.RowKit

section
variable {p m : Nat} {ml : List Int} {N : Nat}
theorem mpF_rng (hp : 2 ≤ p) (sc : List Int) (x : Nat → Int) (N : Nat) : EntR p m N (mpF p m ml sc x) := fun j _ => by
  have := kmul_lt (m := m) (low := lw ml) (show 1 ≤ p by omega) (kin (p ^ m) (sc.getD j 0)) (kin (p ^ m) (x j))
  unfold mpF
  omega
theorem seF_rng {tl : List Int} {y : Nat → Int} {n : Nat} (hr : rngB tl n = true) (hy : EntR p m n y) : EntR p m tl.length (seF tl y) := fun j hj => by
  have := rngB_at hr hj
  exact hy _ (by omega)
theorem rowsF_rng' {l : List (List Int)} {n : Nat} (hl : ∀ r ∈ l, r.length = n ∧ entS (p ^ m) r = 0) {i : Nat} (hi : i < l.length) : EntR p m n (rowsF l i) := fun j hj => by
  have h1 : l.getD i [] = l[i] := by rw [List.getD_eq_getElem?_getD, List.getElem?_eq_getElem hi]; rfl
  obtain ⟨h2, h3⟩ := hl _ (List.getElem_mem hi)
  unfold rowsF
  rw [h1]
  exact entS_rng h3 _ (by rw [List.getD_eq_getElem?_getD, List.getElem?_eq_getElem (by omega)]; exact List.getElem_mem _)
/-- A partial map is compatible: both sides have the same space. -/
def Compat (p m : Nat) (ml : List Int) (l1 l2 : List (List Int)) (tl sc : List Int) : Prop :=
  ∀ x, Sol p m ml tl.length l2.length (fun i => seF tl (rowsF l2 i)) x ↔ Sol p m ml tl.length l1.length (fun i => mpF p m ml sc (rowsF l1 i)) x
/-- The two codes. -/
structure Two (p m : Nat) (ml : List Int) (n : Nat) (l1 l2 : List (List Int)) : Prop where
  hp : 2 ≤ p
  hm : 1 ≤ m
  hF : IsF p m (lw ml)
  h1 : ∀ r ∈ l1, r.length = n ∧ entS (p ^ m) r = 0
  h2 : ∀ r ∈ l2, r.length = n ∧ entS (p ^ m) r = 0
variable {l1 l2 : List (List Int)} {n : Nat} {tl sc : List Int}
theorem Two.spL (h : Two p m ml n l1 l2) (t : Nat) (sc : List Int) : SpOK p m ml t l1.length (fun i => mpF p m ml sc (rowsF l1 i)) (spn p m ml t (fun i => mpF p m ml sc (rowsF l1 i)) l1.length) :=
  spn_ok h.hp h.hm h.hF (K := l1.length) (fun i _ => mpF_rng h.hp _ _ _) _ (Nat.le_refl _)
theorem Two.spR (h : Two p m ml n l1 l2) (hr : rngB tl n = true) : SpOK p m ml tl.length l2.length (fun i => seF tl (rowsF l2 i)) (spn p m ml tl.length (fun i => seF tl (rowsF l2 i)) l2.length) :=
  spn_ok h.hp h.hm h.hF (K := l2.length) (fun i hi => seF_rng hr (rowsF_rng' h.h2 hi)) _ (Nat.le_refl _)
/-- Combinations. -/
theorem cmbK_rng (hp : 2 ≤ p) (msg : List Int) (rows : List (List Int)) : ∀ i j, 0 ≤ cmbK p m ml msg rows i j ∧ cmbK p m ml msg rows i j < ((p ^ m : Nat) : Int)
  | 0, j => by
    have : 0 < p ^ m := Nat.pow_pos (by omega)
    show (0 : Int) ≤ 0 ∧ (0 : Int) < _
    omega
  | i + 1, j => by
    have := kadd_lt (m := m) (show 1 ≤ p by omega) (kin (p ^ m) (cmbK p m ml msg rows i j)) (kmul p m (lw ml) (kin (p ^ m) (msg.getD i 0)) (kin (p ^ m) (rowsF rows i j)))
    show 0 ≤ ((kadd p m _ _ : Nat) : Int) ∧ ((kadd p m _ _ : Nat) : Int) < _
    omega
theorem cmbK_succ (hp : 2 ≤ p) (msg : List Int) (rows : List (List Int)) (i : Nat) : cmbK p m ml msg rows (i + 1) = addF p m ml (cmbK p m ml msg rows i) (kin (p ^ m) (msg.getD i 0)) (rowsF rows i) := by
  funext j
  have hq0 : 0 < p ^ m := Nat.pow_pos (by omega)
  obtain ⟨r1, r2⟩ := cmbK_rng (m := m) (ml := ml) hp msg rows i j
  show ((kadd p m (kin (p ^ m) (cmbK p m ml msg rows i j)) (kmul p m (lw ml) (kin (p ^ m) (msg.getD i 0)) (kin (p ^ m) (rowsF rows i j))) : Nat) : Int) = _
  unfold addF
  split
  · rename_i h0
    rw [h0, kin_zero, kmul_zero_r (by omega), kadd_zero (by omega) (kin_lt hq0 _), kin_code r1 r2]
  · rfl
theorem mpF_add (hp : 2 ≤ p) (sc : List Int) (c : Nat) (v u : Nat → Int) (x : Nat → Int) (K : Nat) (hv : ∀ j, 0 ≤ v j ∧ v j < ((p ^ m : Nat) : Int)) : dt p m ml K (mpF p m ml sc (addF p m ml v c u)) x = kadd p m (dt p m ml K (mpF p m ml sc v) x) (kmul p m (lw ml) c (dt p m ml K (mpF p m ml sc u) x)) := by
  have hq0 : 0 < p ^ m := Nat.pow_pos (by omega)
  rw [← dt_add hp]
  refine dt_congr (fun j _ => ?_) fun _ _ => rfl
  have hk : ∀ a b, kin (p ^ m) ((kmul p m (lw ml) a b : Nat) : Int) = kmul p m (lw ml) a b := fun a b => kin_of (kmul_lt (by omega) _ _)
  have hsw : ∀ s, kmul p m (lw ml) s (kmul p m (lw ml) c (kin (p ^ m) (u j))) = kmul p m (lw ml) c (kmul p m (lw ml) s (kin (p ^ m) (u j))) := fun s => by
    rw [← kmul_assoc (by omega), ← kmul_assoc (by omega), kmul_comm s c]
  have hmu : ∀ f : Nat → Int, mpF p m ml sc f j = ((kmul p m (lw ml) (kin (p ^ m) (sc.getD j 0)) (kin (p ^ m) (f j)) : Nat) : Int) := fun f => rfl
  rw [hmu]
  have hR : addF p m ml (mpF p m ml sc v) c (mpF p m ml sc u) j = if mpF p m ml sc u j = 0 then mpF p m ml sc v j else ((kadd p m (kin (p ^ m) (mpF p m ml sc v j)) (kmul p m (lw ml) c (kin (p ^ m) (mpF p m ml sc u j))) : Nat) : Int) := rfl
  have hL : addF p m ml v c u j = if u j = 0 then v j else ((kadd p m (kin (p ^ m) (v j)) (kmul p m (lw ml) c (kin (p ^ m) (u j))) : Nat) : Int) := rfl
  rw [hR, hL]
  by_cases hu : u j = 0
  · have h0 : mpF p m ml sc u j = 0 := by rw [hmu, hu, kin_zero, kmul_zero_r (by omega)]; rfl
    rw [if_pos hu, if_pos h0, hmu]
  · rw [if_neg hu, kin_of (kadd_lt (by omega) _ _), kmul_kadd_r (by omega), hsw]
    by_cases h0 : mpF p m ml sc u j = 0
    · rw [if_pos h0, hmu]
      rw [hmu] at h0
      have h0' : kmul p m (lw ml) (kin (p ^ m) (sc.getD j 0)) (kin (p ^ m) (u j)) = 0 := by exact_mod_cast h0
      rw [h0', kmul_zero_r (by omega), kadd_zero (by omega) (kmul_lt (by omega) _ _)]
    · rw [if_neg h0, hmu, hmu, hk, hk]
theorem cmb_mp (hp : 2 ≤ p) (sc msg : List Int) (rows : List (List Int)) (x : Nat → Int) (K : Nat) (hx : Sol p m ml K rows.length (fun i => mpF p m ml sc (rowsF rows i)) x) : ∀ i, i ≤ rows.length → dt p m ml K (mpF p m ml sc (cmbK p m ml msg rows i)) x = 0
  | 0, _ => dt_zero hp fun j _ => by
    show ((kmul p m (lw ml) _ (kin (p ^ m) 0) : Nat) : Int) = 0
    rw [kin_zero, kmul_zero_r (by omega)]; rfl
  | i + 1, hi => by
    rw [cmbK_succ hp, mpF_add hp _ _ _ _ _ _ (fun j => cmbK_rng hp _ _ _ j), cmb_mp hp sc msg rows x K hx i (by omega)]
    have := hx i (by omega)
    rw [show dt p m ml K (mpF p m ml sc (rowsF rows i)) x = 0 from this, kmul_zero_r (by omega), kadd_zero (by omega) (Nat.pow_pos (by omega))]
theorem cmb_se (hp : 2 ≤ p) (tl msg : List Int) (rows : List (List Int)) (x : Nat → Int) (K : Nat) (hx : Sol p m ml K rows.length (fun i => seF tl (rowsF rows i)) x) : ∀ i, i ≤ rows.length → dt p m ml K (seF tl (cmbK p m ml msg rows i)) x = 0
  | 0, _ => dt_zero hp fun j _ => rfl
  | i + 1, hi => by
    rw [cmbK_succ hp]
    have e : seF tl (addF p m ml (cmbK p m ml msg rows i) (kin (p ^ m) (msg.getD i 0)) (rowsF rows i)) = addF p m ml (seF tl (cmbK p m ml msg rows i)) (kin (p ^ m) (msg.getD i 0)) (seF tl (rowsF rows i)) := rfl
    rw [e, dt_add hp, cmb_se hp tl msg rows x K hx i (by omega)]
    have := hx i (by omega)
    rw [show dt p m ml K (seF tl (rowsF rows i)) x = 0 from this, kmul_zero_r (by omega), kadd_zero (by omega) (Nat.pow_pos (by omega))]
theorem Two.shw (h : Two p m ml n l1 l2) (hr : rngB tl n = true) (hc : Compat p m ml l1 l2 tl sc) (side : Int) (msg : List Int) : shwB p m ml l1 l2 tl sc side msg = false := by
  have m1 := (misI_neg (p := p) (m := m) (ml := ml) h.hp h.hm (h.spL tl.length sc) (n := 1) (l := fun _ => seF tl (cmbK p m ml msg l2 l2.length)) fun i _ => seF_rng hr fun j _ => cmbK_rng h.hp _ _ _ _).2 fun i _ x hx =>
    cmb_se h.hp tl msg l2 x tl.length ((hc x).2 hx) _ (Nat.le_refl _)
  have m0 := (misI_neg (p := p) (m := m) (ml := ml) h.hp h.hm (h.spR hr) (n := 1) (l := fun _ => mpF p m ml sc (cmbK p m ml msg l1 l1.length)) fun i _ => mpF_rng h.hp _ _ _).2 fun i _ x hx =>
    cmb_mp h.hp sc msg l1 x tl.length ((hc x).1 hx) _ (Nat.le_refl _)
  unfold shwB
  by_cases hs : side = 1
  · simp only [hs, if_true]
    split
    · rfl
    · rw [decide_eq_false_iff_not]; omega
  · simp only [hs, if_false]
    split
    · rfl
    · rw [decide_eq_false_iff_not]; omega
end
/-- A sum whose last values are zero. -/
theorem ks_trunc {p m : Nat} (hp : 1 ≤ p) {g : Nat → Nat} {K : Nat} : ∀ n, K ≤ n → (∀ j, K ≤ j → j < n → g j = 0) → ks p m g n = ks p m g K
  | 0, h, _ => by obtain rfl : K = 0 := by omega
                  rfl
  | n + 1, h, hz => by
    by_cases e : K = n + 1
    · rw [e]
    · show kadd p m (ks p m g n) (g n) = _
      rw [hz n (by omega) (by omega), kadd_zero hp (ks_lt hp _ _)]
      exact ks_trunc hp n (by omega) fun j h1 h2 => hz j h1 (by omega)
theorem dt_trunc {p m : Nat} {ml : List Int} (hp : 1 ≤ p) {n K : Nat} (hK : K ≤ n) (f x : Nat → Int) : dt p m ml n f (fun i => if i < K then x i else 0) = dt p m ml K f x := by
  rw [dt_ks, dt_ks, ks_trunc hp n hK fun j h1 _ => by
    show kmul p m (lw ml) _ (kin (p ^ m) (if j < K then x j else 0)) = 0
    rw [if_neg (by omega), kin_zero, kmul_zero_r hp]]
  exact ks_congr K fun j hj => by rw [if_pos hj]
/-- A linear map that takes the one code to the other. -/
structure Takes (p m : Nat) (ml : List Int) (n : Nat) (l1 l2 : List (List Int)) (pl sl : List Int) : Prop where
  pll : pl.length = n
  sll : sl.length = n
  nn : ∀ i, i < n → 0 ≤ pl.getD i 0
  inj : InjN n (piF pl)
  sc : ∀ i, i < n → ∃ z : Nat, sl.getD i 0 = z ∧ 1 ≤ z ∧ z < p ^ m
  sol : ∀ x, Sol p m ml n l2.length (rowsF l2) x ↔ Sol p m ml n l1.length (fun i => plc (piF pl) (mpF p m ml sl (rowsF l1 i)) n) x
section
variable {p m : Nat} {ml : List Int} {n : Nat} {l1 l2 : List (List Int)} {pl sl : List Int}
theorem take_getD {l : List Int} {K j : Nat} (hj : j < K) : (l.take K).getD j 0 = l.getD j 0 := by
  rw [List.getD_eq_getElem?_getD, List.getElem?_take_of_lt hj, ← List.getD_eq_getElem?_getD]
theorem Takes.rng (h : Takes p m ml n l1 l2 pl sl) (K : Nat) : rngB (pl.take K) n = true := by
  unfold rngB
  refine List.all_eq_true.2 fun x hx => ?_
  obtain ⟨i, hi, rfl⟩ := List.getElem_of_mem (List.mem_of_mem_take hx)
  have h1 := h.nn i (by have := h.pll; omega)
  have h2 := h.inj.lt i (by have := h.pll; omega)
  unfold piF at h2
  have e : pl.getD i 0 = pl[i] := by rw [List.getD_eq_getElem?_getD, List.getElem?_eq_getElem hi]; rfl
  rw [e] at h1 h2
  simp; omega
theorem Takes.compat (h : Takes p m ml n l1 l2 pl sl) (hp : 2 ≤ p) {K : Nat} (hK : K ≤ n) : Compat p m ml l1 l2 (pl.take K) (sl.take K) := by
  have hl : (pl.take K).length = K := by rw [List.length_take, h.pll]; omega
  intro x
  rw [hl]
  have hz : ∀ i, i < n → plc (piF pl) (fun i => if i < K then x i else 0) n (piF pl i) = if i < K then x i else 0 := fun i hi => plc_at h.inj _ n (Nat.le_refl _) i hi
  have e2 : ∀ i, dt p m ml n (rowsF l2 i) (plc (piF pl) (fun i => if i < K then x i else 0) n) = dt p m ml K (seF (pl.take K) (rowsF l2 i)) x := fun i => by
    rw [dt_symm, dt_plc (by omega) h.inj, dt_symm, dt_trunc (by omega) hK]
    refine dt_congr (fun j hj => ?_) fun _ _ => rfl
    unfold seF piF
    rw [take_getD hj]
  have e1 : ∀ i, dt p m ml n (plc (piF pl) (mpF p m ml sl (rowsF l1 i)) n) (plc (piF pl) (fun i => if i < K then x i else 0) n) = dt p m ml K (mpF p m ml (sl.take K) (rowsF l1 i)) x := fun i => by
    rw [dt_plc (by omega) h.inj, dt_congr (fun _ _ => rfl) hz, dt_trunc (by omega) hK]
    refine dt_congr (fun j hj => ?_) fun _ _ => rfl
    unfold mpF
    rw [take_getD hj]
  have := h.sol (plc (piF pl) (fun i => if i < K then x i else 0) n)
  constructor
  · intro hx i hi
    rw [← e1 i]
    exact this.1 (fun i hi => by rw [e2 i]; exact hx i hi) i hi
  · intro hx i hi
    rw [← e2 i]
    exact this.2 (fun i hi => by rw [e1 i]; exact hx i hi) i hi
end
section
variable {σ : Type} {step : σ → List Int → List Int → σ × Int} {tl sc : List Int}
theorem rnA_ok {j : Nat} : ∀ c s, (rnA step tl sc j c s).2 = 0 → ∀ a, 1 ≤ a → a ≤ c → ∃ s', (step s' (tl ++ [(j : Int)]) (sc ++ [(a : Int)])).2 = 0
  | 0, s, h, a, h1, h2 => by omega
  | c + 1, s, h, a, h1, h2 => by
    unfold rnA at h
    split at h
    · rename_i h0; exact absurd h h0
    · rename_i h0
      by_cases e : a = c + 1
      · subst e; exact ⟨_, h⟩
      · exact rnA_ok c s (by omega) a h1 (by omega)
theorem rnJ_ok {q : Nat} : ∀ n s, (rnJ step q tl sc n s).2 = 0 → ∀ j, j < n → tl.contains (j : Int) = false → ∃ s', (rnA step tl sc j (q - 1) s').2 = 0
  | 0, s, h, j, hj, _ => by omega
  | n + 1, s, h, j, hj, hc => by
    unfold rnJ at h
    split at h
    · rename_i h0; exact absurd h h0
    · rename_i h0
      by_cases e : j = n
      · subst e
        rw [hc] at h
        exact ⟨_, h⟩
      · exact rnJ_ok n s (by omega) j (by omega) hc
end
section
variable {p m : Nat} {ml : List Int} {n : Nat} {l1 l2 : List (List Int)} {pl sl : List Int}
theorem Takes.step (h : Takes p m ml n l1 l2 pl sl) {K : Nat} (hK : K < n) : ∃ a : Nat, 1 ≤ a ∧ a ≤ p ^ m - 1 ∧ pl.getD K 0 = ((piF pl K : Nat) : Int) ∧ sl.getD K 0 = (a : Int) ∧ piF pl K < n ∧ (pl.take K).contains ((piF pl K : Nat) : Int) = false ∧ pl.take (K + 1) = pl.take K ++ [((piF pl K : Nat) : Int)] ∧ sl.take (K + 1) = sl.take K ++ [(a : Int)] := by
  obtain ⟨a, ha, a1, a2⟩ := h.sc K hK
  have hn := h.nn K hK
  have e1 : ((piF pl K : Nat) : Int) = pl.getD K 0 := by unfold piF; omega
  refine ⟨a, a1, by omega, e1.symm, ha, h.inj.lt K hK, ?_, ?_, ?_⟩
  · cases hcon : (pl.take K).contains ((piF pl K : Nat) : Int) with
    | false => rfl
    | true =>
      exfalso
      have hmem := List.contains_iff_mem.1 hcon
      obtain ⟨i, hi, e⟩ := List.getElem_of_mem hmem
      rw [List.length_take, h.pll] at hi
      rw [List.getElem_take] at e
      have e2 : pl.getD i 0 = pl[i]'(by have := h.pll; omega) := by rw [List.getD_eq_getElem?_getD, List.getElem?_eq_getElem]; rfl
      have := h.inj.inj i K (by omega) hK (by
        show (pl.getD i 0).toNat = _
        rw [e2, e]; simp)
      omega
  · rw [List.take_add_one, List.getElem?_eq_getElem (by have := h.pll; omega), e1, List.getD_eq_getElem?_getD, List.getElem?_eq_getElem (by have := h.pll; omega)]; rfl
  · rw [List.take_add_one, List.getElem?_eq_getElem (by have := h.sll; omega), ← ha, List.getD_eq_getElem?_getD, List.getElem?_eq_getElem (by have := h.sll; omega)]; rfl
theorem flB_ok {es : List Rf} {k : Nat} {tl sl : List Int} {X : Nat × Int} (h : (flB p m ml l1 l2 n es k tl sl X).2 = 0) : (X.2 = 0 ∧ tl.length < n) ∨ ∃ side msg, shwB p m ml l1 l2 tl sl side msg = true := by
  unfold flB at h
  split at h
  · cases h
  · split at h
    · cases h
    · split at h
      · rename_i h0; exact .inl ⟨h, h0.2.2⟩
      · split at h
        · rename_i h0; exact .inr ⟨_, _, h0.2⟩
        · cases h
/-- No refutation of a partial map is accepted that a map of the codes extends. -/
theorem fl_sound (hT : Two p m ml n l1 l2) (h : Takes p m ml n l1 l2 pl sl) {es : List Rf} : ∀ d k K, K ≤ n → (flF p m ml l1 l2 n es d k (pl.take K) (sl.take K)).2 ≠ 0
  | d, k, K, hK, h0 => by
    have hl : (pl.take K).length = K := by rw [List.length_take, h.pll]; omega
    have hc := h.compat hT.hp hK
    cases d with
    | zero =>
      unfold flF at h0
      rcases flB_ok h0 with ⟨h1, _⟩ | ⟨side, msg, h1⟩
      · cases h1
      · rw [hT.shw (h.rng K) hc] at h1; cases h1
    | succ d =>
      unfold flF at h0
      rcases flB_ok h0 with ⟨h1, h2⟩ | ⟨side, msg, h1⟩
      · rw [hl] at h2
        obtain ⟨a, a1, a2, -, -, b1, b2, c1, c2⟩ := h.step h2
        obtain ⟨s1, h3⟩ := rnJ_ok n _ h1 _ b1 b2
        obtain ⟨s2, h4⟩ := rnA_ok _ _ h3 a a1 a2
        rw [← c1, ← c2] at h4
        exact fl_sound hT h d s2 (K + 1) h2 h4
      · rw [hT.shw (h.rng K) hc] at h1; cases h1
end
end Go.Proofs.YtgdmlmhpineibaaGreat
