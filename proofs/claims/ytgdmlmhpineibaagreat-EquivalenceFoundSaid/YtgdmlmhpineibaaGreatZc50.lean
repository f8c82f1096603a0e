/- Plain: a span of the search holds exactly the words of its rows' space. -/
/- Plain: compatible partial maps; a refutation is sound; the search finds the first map. -/
import Derived.Test.YtgdmlmhpineibaaGreatZc16
import Derived.Test.YtgdmlmhpineibaaGreatZc26
import Derived.Test.YtgdmlmhpineibaaGreatZc31
import Derived.Test.YtgdmlmhpineibaaGreatZc41
import Derived.Test.YtgdmlmhpineibaaGreatZc49
namespace Go.Proofs.YtgdmlmhpineibaaGreat
set_option linter.unusedVariables false
set_option linter.unusedSimpArgs false
open Go.RowKit

/-- Entries are elements. -/
def EntR (p m N : Nat) (f : Nat → Int) : Prop := ∀ j, j < N → 0 ≤ f j ∧ f j < ((p ^ m : Nat) : Int)
section
variable {p m : Nat} {ml : List Int} {N : Nat}
theorem redJ_addF (hp : 1 ≤ p) (x : Int) (u r : Nat → Int) : redJ p m ml x u r = addF p m ml u (kneg p m (kin (p ^ m) x)) r := by
  funext j
  unfold redJ addF
  rw [kneg_mul' hp]
theorem redI_dt (hp : 2 ≤ p) {u r : Nat → Int} {pl : Nat} {x : Nat → Int} (hx : dt p m ml N r x = 0) : dt p m ml N (redI p m ml u pl r) x = dt p m ml N u x := by
  unfold redI
  split
  · rfl
  · rw [redJ_addF (by omega), dt_add hp, hx, kmul_zero_r (by omega), kadd_zero (by omega) (dt_lt hp _ _)]
theorem redI_rng (hp : 2 ≤ p) {u r : Nat → Int} {pl : Nat} (hu : EntR p m N u) : EntR p m N (redI p m ml u pl r) := by
  unfold redI
  split
  · exact hu
  · intro j hj
    unfold redJ
    split
    · exact hu j hj
    · have := kadd_lt (m := m) (show 1 ≤ p by omega) (kin (p ^ m) (u j)) (kneg p m (kmul p m (lw ml) (kin (p ^ m) (u pl)) (kin (p ^ m) (r j))))
      omega
theorem redK_dt (hp : 2 ≤ p) {a : Nat → Nat → Int} {pl : Nat → Nat} {v x : Nat → Int} : ∀ k, Sol p m ml N k a x → dt p m ml N (redK p m ml a pl v k) x = dt p m ml N v x
  | 0, _ => rfl
  | k + 1, h => by
    show dt p m ml N (redI p m ml (redK p m ml a pl v k) (pl k) (a k)) x = _
    rw [redI_dt hp (h k (by omega))]
    exact redK_dt hp k fun i hi => h i (by omega)
theorem redK_rng (hp : 2 ≤ p) {a : Nat → Nat → Int} {pl : Nat → Nat} {v : Nat → Int} (hv : EntR p m N v) : ∀ k, EntR p m N (redK p m ml a pl v k)
  | 0 => hv
  | k + 1 => redI_rng hp (redK_rng hp hv k)
theorem redK_zer (hp : 2 ≤ p) (hm : 1 ≤ m) {n : Nat} {a : Nat → Nat → Int} {pl : Nat → Nat} {v : Nat → Int} (h : Ech N a pl n) : ∀ k, k ≤ n → ∀ j, j < k → redK p m ml a pl v k (pl j) = 0
  | 0, _, j, hj => by omega
  | k + 1, hk, j, hj => by
    show redI p m ml (redK p m ml a pl v k) (pl k) (a k) (pl j) = 0
    unfold redI
    split
    · rename_i h0
      by_cases e : j = k
      · rw [e]; exact h0
      · exact redK_zer hp hm h k (by omega) j (by omega)
    · unfold redJ
      by_cases e : j = k
      · rw [e, h.one k (by omega), if_neg (by decide), kin_one hp hm, kmul_one hp hm (kin_lt (Nat.pow_pos (by omega)) _), kadd_kneg (by omega)]; rfl
      · rw [h.zer k j (by omega) (by omega), if_pos rfl]
        exact redK_zer hp hm h k (by omega) j (by omega)
theorem fstI_neg {pr : Nat → Bool} {n : Nat} : fstI pr n < 0 ↔ ∀ j, j < n → pr j = false := by
  have h := fstI_any pr n
  constructor
  · intro h0
    rw [decide_eq_false (by omega)] at h
    intro j hj
    cases e : pr j with
    | false => rfl
    | true =>
      have : (List.range n).any pr = true := List.any_eq_true.2 ⟨j, List.mem_range.2 hj, e⟩
      rw [h] at this; cases this
  · intro ha
    rw [fstI_miss ha]; decide
theorem fstI_at {pr : Nat → Bool} {n : Nat} (h : 0 ≤ fstI pr n) : (fstI pr n).toNat < n ∧ pr (fstI pr n).toNat = true ∧ ∀ j, j < (fstI pr n).toNat → pr j = false := by
  unfold fstI at h ⊢
  split
  · rename_i i hi
    rw [List.find?_range_eq_some] at hi
    refine ⟨by have := List.mem_range.1 hi.2.1; simpa using this, by simpa using hi.1, fun j hj => ?_⟩
    have := hi.2.2 j (by simpa using hj)
    simpa using this
  · rename_i hn
    rw [hn] at h; exact absurd h (by decide)
theorem lzI_neg {t : Nat} {v : Nat → Int} : lzI t v < 0 ↔ ∀ j, j < t → v j = 0 := by
  unfold lzI
  rw [fstI_neg]
  exact ⟨fun h j hj => by simpa using h j hj, fun h j hj => by simpa using h j hj⟩
theorem lzI_at {t : Nat} {v : Nat → Int} (h : 0 ≤ lzI t v) : (lzI t v).toNat < t ∧ v (lzI t v).toNat ≠ 0 := by
  obtain ⟨h1, h2, -⟩ := fstI_at h
  refine ⟨h1, ?_⟩
  have h3 : (v (lzI t v).toNat != 0) = true := h2
  simpa using h3
/-- What a span is. -/
structure SpOK (p m : Nat) (ml : List Int) (N k : Nat) (rows : Nat → Nat → Int) (e : EcS) : Prop where
  ech : Ech N e.a e.pl e.n
  sol : ∀ x, Sol p m ml N e.n e.a x ↔ Sol p m ml N k rows x
theorem Sol.succ_iff {k : Nat} {rows : Nat → Nat → Int} {x : Nat → Int} : Sol p m ml N (k + 1) rows x ↔ Sol p m ml N k rows x ∧ dt p m ml N (rows k) x = 0 :=
  ⟨fun h => ⟨fun i hi => h i (by omega), h k (by omega)⟩, fun h i hi => by
    by_cases e : i = k
    · rw [e]; exact h.2
    · exact h.1 i (by omega)⟩
theorem spnS_ok (hp : 2 ≤ p) (hm : 1 ≤ m) (hF : IsF p m (lw ml)) {k : Nat} {rows : Nat → Nat → Int} {e : EcS} (h : SpOK p m ml N k rows e) (hr : EntR p m N (rows k)) : SpOK p m ml N (k + 1) rows (spnS p m ml N e (rows k)) := by
  have hq0 : 0 < p ^ m := Nat.pow_pos (by omega)
  have hrng : EntR p m N (e.red p m ml (rows k)) := redK_rng hp hr _
  have hdt : ∀ x, Sol p m ml N e.n e.a x → dt p m ml N (e.red p m ml (rows k)) x = dt p m ml N (rows k) x := fun x hx => redK_dt hp _ hx
  unfold spnS
  split
  · rename_i hz
    obtain ⟨hz1, hz2⟩ := lzI_at hz
    generalize hZ : (lzI N (e.red p m ml (rows k))).toNat = z at hz1 hz2
    obtain ⟨r1, r2⟩ := hrng z hz1
    have hk0 : ((kin (p ^ m) (e.red p m ml (rows k) z) : Nat) : Int) = e.red p m ml (rows k) z := kin_code r1 r2
    have hk1 : 1 ≤ kin (p ^ m) (e.red p m ml (rows k) z) := by omega
    have hkl : kin (p ^ m) (e.red p m ml (rows k) z) < p ^ m := kin_lt hq0 _
    obtain ⟨c, hc⟩ : ∃ c, ivz p m ml (kin (p ^ m) (e.red p m ml (rows k) z)) = c := ⟨_, rfl⟩
    have hcm : kmul p m (lw ml) c (kin (p ^ m) (e.red p m ml (rows k) z)) = 1 := by
      rw [← hc]; unfold ivz
      rw [if_neg (by omega), kmul_comm]
      exact kinv_mul hp hm hF hk1 hkl
    rw [hc]
    have hzr : ∀ j, j < e.n → e.red p m ml (rows k) (e.pl j) = 0 := fun j hj => redK_zer hp hm h.ech _ (Nat.le_refl _) j hj
    have hpl : ∀ j, j < e.n → upd e.pl e.n z j = e.pl j := fun j hj => upd_ne _ _ (by omega)
    have hal : ∀ j, j < e.n → upd e.a e.n (sclF p m ml c (e.red p m ml (rows k))) j = e.a j := fun j hj => upd_ne _ _ (by omega)
    refine ⟨⟨fun i hi => ?_, fun i hi => ?_, fun i j hj hi => ?_⟩, fun x => ?_⟩
    · simp only at hi ⊢
      by_cases ei : i = e.n
      · rw [ei, upd_same]; exact hz1
      · rw [hpl i (by omega)]; exact h.ech.lt i (by omega)
    · simp only at hi ⊢
      by_cases ei : i = e.n
      · rw [ei, upd_same, upd_same]
        show ((kmul p m (lw ml) c (kin (p ^ m) (e.red p m ml (rows k) z)) : Nat) : Int) = 1
        rw [hcm]; rfl
      · rw [hpl i (by omega), hal i (by omega)]; exact h.ech.one i (by omega)
    · simp only at hi ⊢
      rw [hpl j (by omega)]
      by_cases ei : i = e.n
      · rw [ei, upd_same]
        show ((kmul p m (lw ml) c (kin (p ^ m) (e.red p m ml (rows k) (e.pl j))) : Nat) : Int) = 0
        rw [hzr j (by omega), kin_zero, kmul_zero_r (by omega)]; rfl
      · rw [hal i (by omega)]; exact h.ech.zer i j hj (by omega)
    · simp only
      rw [Sol.succ_iff (k := e.n), Sol.succ_iff (k := k), upd_same, dt_scl hp]
      have e1 : Sol p m ml N e.n (upd e.a e.n (sclF p m ml c (e.red p m ml (rows k)))) x ↔ Sol p m ml N e.n e.a x :=
        ⟨fun h i hi => by rw [← hal i hi]; exact h i hi, fun h i hi => by rw [hal i hi]; exact h i hi⟩
      rw [e1]
      constructor
      · rintro ⟨a1, a2⟩
        refine ⟨(h.sol x).1 a1, ?_⟩
        rw [← hdt x a1]
        apply Classical.byContradiction
        intro hne
        have hcl : c ≠ 0 := fun h0 => by
          rw [h0, kmul_zero (by omega)] at hcm; cases hcm
        have hcq : c < p ^ m := by
          apply Classical.byContradiction
          intro hge
          rw [← hc] at hge
          unfold ivz at hge
          rw [if_neg (by omega)] at hge
          exact hge (kinv_lt (by omega) _)
        have := hF.ne_zero hp hm (a := c) (b := dt p m ml N (e.red p m ml (rows k)) x) (by omega) hcq (by omega) (dt_lt hp _ _)
        omega
      · rintro ⟨a1, a2⟩
        have a3 := (h.sol x).2 a1
        exact ⟨a3, by rw [hdt x a3, a2, kmul_zero_r (by omega)]⟩
  · rename_i hz
    have h0 := lzI_neg.1 (Int.not_le.1 hz)
    refine ⟨h.ech, fun x => ?_⟩
    rw [Sol.succ_iff (k := k), h.sol x]
    refine ⟨fun a => ⟨a, ?_⟩, fun a => a.1⟩
    rw [← hdt x ((h.sol x).2 a)]
    exact dt_zero hp h0
theorem spn_ok (hp : 2 ≤ p) (hm : 1 ≤ m) (hF : IsF p m (lw ml)) {rows : Nat → Nat → Int} {K : Nat} (hr : ∀ i, i < K → EntR p m N (rows i)) : ∀ k, k ≤ K → SpOK p m ml N k rows (spn p m ml N rows k)
  | 0, _ => ⟨⟨fun i hi => absurd hi (Nat.not_lt_zero i), fun i hi => absurd hi (Nat.not_lt_zero i), fun i j _ hi => absurd hi (Nat.not_lt_zero i)⟩, fun x => ⟨fun _ i hi => absurd hi (Nat.not_lt_zero i), fun _ i hi => absurd hi (Nat.not_lt_zero i)⟩⟩
  | k + 1, hk => spnS_ok hp hm hF (spn_ok hp hm hF hr k (by omega)) (hr k (by omega))
/-- A word is left as zero exactly when it lies in the space of the rows. -/
theorem SpOK.red_iff (hp : 2 ≤ p) (hm : 1 ≤ m) {k : Nat} {rows : Nat → Nat → Int} {e : EcS} (h : SpOK p m ml N k rows e) {v : Nat → Int} (hv : EntR p m N v) : lzI N (e.red p m ml v) < 0 ↔ Cl p m ml N k rows v := by
  rw [lzI_neg]
  have hdt : ∀ x, Sol p m ml N e.n e.a x → dt p m ml N (e.red p m ml v) x = dt p m ml N v x := fun x hx => redK_dt hp _ hx
  constructor
  · intro h0 x hx
    rw [← hdt x ((h.sol x).2 hx)]
    exact dt_zero hp h0
  · intro hc j hj
    have := Ech.zero (ml := ml) hp hm h.ech (fun i hi => redK_zer hp hm h.ech _ (Nat.le_refl _) i hi) (fun x hx => by
      show dt p m ml N (e.red p m ml v) x = 0
      rw [hdt x hx]; exact hc x ((h.sol x).1 hx)) hj
    obtain ⟨r1, r2⟩ := redK_rng (ml := ml) (a := e.a) (pl := e.pl) hp hv e.n j hj
    have e2 := kin_code r1 r2
    rw [this] at e2
    exact e2.symm
theorem misI_neg (hp : 2 ≤ p) (hm : 1 ≤ m) {k n : Nat} {rows l : Nat → Nat → Int} {e : EcS} (h : SpOK p m ml N k rows e) (hl : ∀ i, i < n → EntR p m N (l i)) : misI p m ml N e l n < 0 ↔ ∀ i, i < n → Cl p m ml N k rows (l i) := by
  unfold misI
  rw [fstI_neg]
  constructor
  · intro h0 i hi
    have := h0 i hi
    rw [decide_eq_false_iff_not] at this
    exact (h.red_iff hp hm (hl i hi)).1 (by omega)
  · intro h0 i hi
    rw [decide_eq_false_iff_not]
    have := (h.red_iff hp hm (hl i hi)).2 (h0 i hi)
    omega
end
end Go.Proofs.YtgdmlmhpineibaaGreat
namespace Go.Proofs.YtgdmlmhpineibaaGreat
set_option linter.unusedVariables false
set_option linter.unusedSimpArgs false
open Go.RowKit

section
variable {p m : Nat} {ml : List Int} {N : Nat}
theorem mpF_rng (hp : 2 ≤ p) (sc : List Int) (x : Nat → Int) (N : Nat) : EntR p m N (mpF p m ml sc x) := fun j _ => by
  have := kmul_lt (m := m) (low := lw ml) (show 1 ≤ p by omega) (kin (p ^ m) (sc.getD j 0)) (kin (p ^ m) (x j))
  unfold mpF
  omega
theorem seF_rng {tl : List Int} {y : Nat → Int} {n : Nat} (hr : rngB tl n = true) (hy : EntR p m n y) : EntR p m tl.length (seF tl y) := fun j hj => by
  have := rngB_at hr hj
  exact hy _ (by omega)
theorem rowsF_rng' {l : List (List Int)} {n : Nat} (hl : ∀ r ∈ l, r.length = n ∧ entS (p ^ m) r = 0) {i : Nat} (hi : i < l.length) : EntR p m n (rowsF l i) := fun j hj => by
  have h1 : l.getD i [] = l[i] := by rw [List.getD_eq_getElem?_getD, List.getElem?_eq_getElem hi]; rfl
  obtain ⟨h2, h3⟩ := hl _ (List.getElem_mem hi)
  unfold rowsF
  rw [h1]
  exact entS_rng h3 _ (by rw [List.getD_eq_getElem?_getD, List.getElem?_eq_getElem (by omega)]; exact List.getElem_mem _)
/-- A partial map is compatible: both sides have the same space. -/
def Compat (p m : Nat) (ml : List Int) (l1 l2 : List (List Int)) (tl sc : List Int) : Prop :=
  ∀ x, Sol p m ml tl.length l2.length (fun i => seF tl (rowsF l2 i)) x ↔ Sol p m ml tl.length l1.length (fun i => mpF p m ml sc (rowsF l1 i)) x
/-- The two codes. -/
structure Two (p m : Nat) (ml : List Int) (n : Nat) (l1 l2 : List (List Int)) : Prop where
  hp : 2 ≤ p
  hm : 1 ≤ m
  hF : IsF p m (lw ml)
  h1 : ∀ r ∈ l1, r.length = n ∧ entS (p ^ m) r = 0
  h2 : ∀ r ∈ l2, r.length = n ∧ entS (p ^ m) r = 0
variable {l1 l2 : List (List Int)} {n : Nat} {tl sc : List Int}
theorem Two.spL (h : Two p m ml n l1 l2) (t : Nat) (sc : List Int) : SpOK p m ml t l1.length (fun i => mpF p m ml sc (rowsF l1 i)) (spn p m ml t (fun i => mpF p m ml sc (rowsF l1 i)) l1.length) :=
  spn_ok h.hp h.hm h.hF (K := l1.length) (fun i _ => mpF_rng h.hp _ _ _) _ (Nat.le_refl _)
theorem Two.spR (h : Two p m ml n l1 l2) (hr : rngB tl n = true) : SpOK p m ml tl.length l2.length (fun i => seF tl (rowsF l2 i)) (spn p m ml tl.length (fun i => seF tl (rowsF l2 i)) l2.length) :=
  spn_ok h.hp h.hm h.hF (K := l2.length) (fun i hi => seF_rng hr (rowsF_rng' h.h2 hi)) _ (Nat.le_refl _)
theorem Two.mis0 (h : Two p m ml n l1 l2) (hr : rngB tl n = true) : misI p m ml tl.length (spn p m ml tl.length (fun i => seF tl (rowsF l2 i)) l2.length) (fun i => mpF p m ml sc (rowsF l1 i)) l1.length < 0 ↔ ∀ x, Sol p m ml tl.length l2.length (fun i => seF tl (rowsF l2 i)) x → Sol p m ml tl.length l1.length (fun i => mpF p m ml sc (rowsF l1 i)) x := by
  rw [misI_neg h.hp h.hm (h.spR hr) fun i _ => mpF_rng h.hp _ _ _]
  exact Cl.sol_iff
theorem Two.mis1 (h : Two p m ml n l1 l2) (hr : rngB tl n = true) : misI p m ml tl.length (spn p m ml tl.length (fun i => mpF p m ml sc (rowsF l1 i)) l1.length) (fun i => seF tl (rowsF l2 i)) l2.length < 0 ↔ ∀ x, Sol p m ml tl.length l1.length (fun i => mpF p m ml sc (rowsF l1 i)) x → Sol p m ml tl.length l2.length (fun i => seF tl (rowsF l2 i)) x := by
  rw [misI_neg h.hp h.hm (h.spL _ sc) fun i hi => seF_rng hr (rowsF_rng' h.h2 hi)]
  exact Cl.sol_iff
theorem Two.wit (h : Two p m ml n l1 l2) (hr : rngB tl n = true) : (witI p m ml l1 l2 tl sc).1 < 0 ↔ Compat p m ml l1 l2 tl sc := by
  have e0 := h.mis0 (sc := sc) hr
  have e1 := h.mis1 (sc := sc) hr
  unfold witI
  simp only
  split
  · rename_i h0
    refine ⟨fun h => absurd h (by simp), fun hc => ?_⟩
    have := e0.2 fun x hx => (hc x).1 hx
    omega
  · rename_i h0
    split
    · rename_i h1
      refine ⟨fun h => absurd h (by simp), fun hc => ?_⟩
      have := e1.2 fun x hx => (hc x).2 hx
      omega
    · rename_i h1
      refine ⟨fun _ x => ⟨e0.1 (by omega) x, e1.1 (by omega) x⟩, fun _ => by simp⟩
end
/-- A sum whose last values are zero. -/
theorem ks_trunc {p m : Nat} (hp : 1 ≤ p) {g : Nat → Nat} {K : Nat} : ∀ n, K ≤ n → (∀ j, K ≤ j → j < n → g j = 0) → ks p m g n = ks p m g K
  | 0, h, _ => by obtain rfl : K = 0 := by omega
                  rfl
  | n + 1, h, hz => by
    by_cases e : K = n + 1
    · rw [e]
    · show kadd p m (ks p m g n) (g n) = _
      rw [hz n (by omega) (by omega), kadd_zero hp (ks_lt hp _ _)]
      exact ks_trunc hp n (by omega) fun j h1 h2 => hz j h1 (by omega)
theorem dt_trunc {p m : Nat} {ml : List Int} (hp : 1 ≤ p) {n K : Nat} (hK : K ≤ n) (f x : Nat → Int) : dt p m ml n f (fun i => if i < K then x i else 0) = dt p m ml K f x := by
  rw [dt_ks, dt_ks, ks_trunc hp n hK fun j h1 _ => by
    show kmul p m (lw ml) _ (kin (p ^ m) (if j < K then x j else 0)) = 0
    rw [if_neg (by omega), kin_zero, kmul_zero_r hp]]
  exact ks_congr K fun j hj => by rw [if_pos hj]
/-- A linear map that takes the one code to the other. -/
structure Takes (p m : Nat) (ml : List Int) (n : Nat) (l1 l2 : List (List Int)) (pl sl : List Int) : Prop where
  pll : pl.length = n
  sll : sl.length = n
  nn : ∀ i, i < n → 0 ≤ pl.getD i 0
  inj : InjN n (piF pl)
  sc : ∀ i, i < n → ∃ z : Nat, sl.getD i 0 = z ∧ 1 ≤ z ∧ z < p ^ m
  sol : ∀ x, Sol p m ml n l2.length (rowsF l2) x ↔ Sol p m ml n l1.length (fun i => plc (piF pl) (mpF p m ml sl (rowsF l1 i)) n) x
section
variable {p m : Nat} {ml : List Int} {n : Nat} {l1 l2 : List (List Int)} {pl sl : List Int}
theorem take_getD {l : List Int} {K j : Nat} (hj : j < K) : (l.take K).getD j 0 = l.getD j 0 := by
  rw [List.getD_eq_getElem?_getD, List.getElem?_take_of_lt hj, ← List.getD_eq_getElem?_getD]
theorem Takes.compat (h : Takes p m ml n l1 l2 pl sl) (hp : 2 ≤ p) {K : Nat} (hK : K ≤ n) : Compat p m ml l1 l2 (pl.take K) (sl.take K) := by
  have hl : (pl.take K).length = K := by rw [List.length_take, h.pll]; omega
  intro x
  rw [hl]
  have hz : ∀ i, i < n → plc (piF pl) (fun i => if i < K then x i else 0) n (piF pl i) = if i < K then x i else 0 := fun i hi => plc_at h.inj _ n (Nat.le_refl _) i hi
  have e2 : ∀ i, dt p m ml n (rowsF l2 i) (plc (piF pl) (fun i => if i < K then x i else 0) n) = dt p m ml K (seF (pl.take K) (rowsF l2 i)) x := fun i => by
    rw [dt_symm, dt_plc (by omega) h.inj, dt_symm, dt_trunc (by omega) hK]
    refine dt_congr (fun j hj => ?_) fun _ _ => rfl
    unfold seF piF
    rw [take_getD hj]
  have e1 : ∀ i, dt p m ml n (plc (piF pl) (mpF p m ml sl (rowsF l1 i)) n) (plc (piF pl) (fun i => if i < K then x i else 0) n) = dt p m ml K (mpF p m ml (sl.take K) (rowsF l1 i)) x := fun i => by
    rw [dt_plc (by omega) h.inj, dt_congr (fun _ _ => rfl) hz, dt_trunc (by omega) hK]
    refine dt_congr (fun j hj => ?_) fun _ _ => rfl
    unfold mpF
    rw [take_getD hj]
  have := h.sol (plc (piF pl) (fun i => if i < K then x i else 0) n)
  constructor
  · intro hx i hi
    rw [← e1 i]
    exact this.1 (fun i hi => by rw [e2 i]; exact hx i hi) i hi
  · intro hx i hi
    rw [← e2 i]
    exact this.2 (fun i hi => by rw [e1 i]; exact hx i hi) i hi
/-- A compatible map of full length takes the one code to the other. -/
theorem Takes.of (hp : 2 ≤ p) (h1 : pl.length = n) (h2 : sl.length = n) (h3 : ∀ i, i < n → 0 ≤ pl.getD i 0) (h4 : InjN n (piF pl)) (h5 : ∀ i, i < n → ∃ z : Nat, sl.getD i 0 = z ∧ 1 ≤ z ∧ z < p ^ m) (hc : Compat p m ml l1 l2 pl sl) : Takes p m ml n l1 l2 pl sl := by
  refine ⟨h1, h2, h3, h4, h5, fun x => ?_⟩
  have e2 : ∀ i, dt p m ml n (seF pl (rowsF l2 i)) (fun i => x (piF pl i)) = dt p m ml n (rowsF l2 i) x := fun i => by
    rw [dt_ks, dt_ks, ← h4.sum (by omega) (g := fun j => kmul p m (lw ml) (kin (p ^ m) (rowsF l2 i j)) (kin (p ^ m) (x j))) fun j => kmul_lt (by omega) _ _]
    rfl
  have e1 : ∀ i, dt p m ml n (plc (piF pl) (mpF p m ml sl (rowsF l1 i)) n) x = dt p m ml n (mpF p m ml sl (rowsF l1 i)) (fun i => x (piF pl i)) := fun i => dt_plc (by omega) h4 _ _
  have := hc (fun i => x (piF pl i))
  rw [h1] at this
  constructor
  · intro hx i hi
    show dt p m ml n (plc (piF pl) (mpF p m ml sl (rowsF l1 i)) n) x = 0
    rw [e1 i]
    exact this.1 (fun i hi => by show dt p m ml n (seF pl (rowsF l2 i)) _ = 0; rw [e2 i]; exact hx i hi) i hi
  · intro hx i hi
    rw [← e2 i]
    exact this.2 (fun i hi => by rw [← e1 i]; exact hx i hi) i hi
end
section
variable {σ : Type} {step : σ → List Int → List Int → σ × Int} {tl sc : List Int}
end
section
variable {p m : Nat} {ml : List Int} {n : Nat} {l1 l2 : List (List Int)} {pl sl : List Int}
theorem Takes.step (h : Takes p m ml n l1 l2 pl sl) {K : Nat} (hK : K < n) : ∃ a : Nat, 1 ≤ a ∧ a ≤ p ^ m - 1 ∧ pl.getD K 0 = ((piF pl K : Nat) : Int) ∧ sl.getD K 0 = (a : Int) ∧ piF pl K < n ∧ (pl.take K).contains ((piF pl K : Nat) : Int) = false ∧ pl.take (K + 1) = pl.take K ++ [((piF pl K : Nat) : Int)] ∧ sl.take (K + 1) = sl.take K ++ [(a : Int)] := by
  obtain ⟨a, ha, a1, a2⟩ := h.sc K hK
  have hn := h.nn K hK
  have e1 : ((piF pl K : Nat) : Int) = pl.getD K 0 := by unfold piF; omega
  refine ⟨a, a1, by omega, e1.symm, ha, h.inj.lt K hK, ?_, ?_, ?_⟩
  · cases hcon : (pl.take K).contains ((piF pl K : Nat) : Int) with
    | false => rfl
    | true =>
      exfalso
      have hmem := List.contains_iff_mem.1 hcon
      obtain ⟨i, hi, e⟩ := List.getElem_of_mem hmem
      rw [List.length_take, h.pll] at hi
      rw [List.getElem_take] at e
      have e2 : pl.getD i 0 = pl[i]'(by have := h.pll; omega) := by rw [List.getD_eq_getElem?_getD, List.getElem?_eq_getElem]; rfl
      have := h.inj.inj i K (by omega) hK (by
        show (pl.getD i 0).toNat = _
        rw [e2, e]; simp)
      omega
  · rw [List.take_add_one, List.getElem?_eq_getElem (by have := h.pll; omega), e1, List.getD_eq_getElem?_getD, List.getElem?_eq_getElem (by have := h.pll; omega)]; rfl
  · rw [List.take_add_one, List.getElem?_eq_getElem (by have := h.sll; omega), ← ha, List.getD_eq_getElem?_getD, List.getElem?_eq_getElem (by have := h.sll; omega)]; rfl
end
end Go.Proofs.YtgdmlmhpineibaaGreat
