/- Plain: the rows in another order, and multiplied by elements other than 0, give the same result of peeling. -/
import Derived.Test.YtpphaicbdeeacaaPeelV
namespace Go.Proofs.Ytpphaicbdeeacaa
set_option linter.unusedVariables false
set_option linter.unusedSimpArgs false
open Go.RowKit

theorem kneg_of' {p m : Nat} (hp : 1 ≤ p) {a b : Nat} (hb : b < p ^ m) (h : kadd p m a b = 0) : b = kneg p m a := by
  have h1 : kadd p m (kneg p m a) (kadd p m a b) = b := by
    rw [← kadd_assoc hp, kadd_comm (kneg p m a), kadd_kneg hp, zero_kadd hp hb]
  rw [h, kadd_zero hp (kneg_lt hp a)] at h1
  exact h1.symm
theorem kneg_mul' {p m : Nat} {low : Vc} (hp : 1 ≤ p) (x y : Nat) : kmul p m low (kneg p m x) y = kneg p m (kmul p m low x y) := by
  refine kneg_of' hp (kmul_lt hp _ _) ?_
  rw [← kmul_kadd hp, kadd_kneg hp, kmul_zero hp]
theorem kmul_zero_r {p m : Nat} {low : Vc} (hp : 1 ≤ p) (x : Nat) : kmul p m low x 0 = 0 := by rw [kmul_comm, kmul_zero hp]
theorem kin_code {q : Nat} {x : Int} (h0 : 0 ≤ x) (h : x < q) : ((kin q x : Nat) : Int) = x := by unfold kin; rw [if_pos ⟨h0, h⟩]; omega
theorem kin_zero (q : Nat) : kin q 0 = 0 := by unfold kin; split <;> rfl
theorem entS_rng {q : Nat} {r : List Int} (h : entS q r = 0) : ∀ x ∈ r, 0 ≤ x ∧ x < q := fun x hx => by
  unfold entS at h
  split at h
  · rename_i h1
    have := List.all_eq_true.1 h1 x hx
    unfold isB at this
    exact of_decide_eq_true this
  · cases h
theorem entS_of {q : Nat} {r : List Int} (h : ∀ x ∈ r, 0 ≤ x ∧ x < q) : entS q r = 0 := by
  unfold entS
  rw [if_pos]
  rw [List.all_eq_true]
  intro x hx
  unfold isB
  exact decide_eq_true (h x hx)
theorem kinv_mul {p m : Nat} {ml : List Int} (hp : 2 ≤ p) (hm : 1 ≤ m) (hF : IsF p m (lw ml)) {z : Nat} (h1 : 1 ≤ z) (h2 : z < p ^ m) : kmul p m (lw ml) z (kinv p m ml z) = 1 := by
  obtain ⟨y, y1, y2, y3⟩ := hF.inv hp hm h1 h2
  rw [kinv_eq hp hm hF h2 h1 y2 y3, y3]

section
variable {p m : Nat} {ml : List Int} {N : Nat} {H : List (List Int)}
theorem il_len (N : Nat) (x : Nat → Int) : (il N x).length = N := by unfold il; simp
/-- A word that differs at one position of the row, where the first word has 0. -/
theorem dot_one (hp : 2 ≤ p) {r : List Int} (hr : r.length = N) {x y : Nat → Int} {i : Nat} (hx : x i = 0) (h : ∀ j, j < N → j ≠ i → r.getD j 0 ≠ 0 → y j = x j) : ∀ n, n ≤ N →
    kdot p m ml (r.take n) ((il N y).take n) 0 = if i < n then kadd p m (kdot p m ml (r.take n) ((il N x).take n) 0) (kmul p m (lw ml) (kin (p ^ m) (r.getD i 0)) (kin (p ^ m) (y i))) else kdot p m ml (r.take n) ((il N x).take n) 0
  | 0, _ => by simp [kdot]
  | n + 1, hn => by
    have ih := dot_one hp hr hx h n (by omega)
    have hq : 1 ≤ p ^ m := Nat.pow_pos (by omega)
    have hrn : r[n]? = some (r.getD n 0) := by
      rw [List.getD_eq_getElem?_getD, List.getElem?_eq_getElem (by omega)]; rfl
    rw [kdot_step r (il N y) n 0 _ _ hrn (il_get (show n < N by omega) _), kdot_step r (il N x) n 0 _ _ hrn (il_get (show n < N by omega) _), ih]
    by_cases e : n = i
    · subst e
      rw [if_neg (by omega), if_pos (by omega), hx, kin_zero, kmul_zero_r (by omega), kadd_zero (by omega) (kdot_lt (by omega) _ _ _ (by omega))]
    · have he : kmul p m (lw ml) (kin (p ^ m) (r.getD n 0)) (kin (p ^ m) (y n)) = kmul p m (lw ml) (kin (p ^ m) (r.getD n 0)) (kin (p ^ m) (x n)) := by
        by_cases h0 : r.getD n 0 = 0
        · rw [h0, kin_zero, kmul_zero (by omega), kmul_zero (by omega)]
        · rw [h n (by omega) e h0]
      rw [he]
      by_cases hi : i < n
      · rw [if_pos hi, if_pos (by omega), kadd_assoc (by omega), kadd_assoc (by omega)]
        congr 1
        exact kadd_comm _ _
      · rw [if_neg hi, if_neg (by omega)]
theorem dot_full {r : List Int} (hr : r.length = N) (x : Nat → Int) : kdot p m ml (r.take N) ((il N x).take N) 0 = kdot p m ml r (il N x) 0 := kdot_take _ _ _ _ (by rw [hr]; omega)
theorem dot_at (hp : 2 ≤ p) {r : List Int} (hr : r.length = N) {x y : Nat → Int} {i : Nat} (hi : i < N) (hx : x i = 0) (h : ∀ j, j < N → j ≠ i → r.getD j 0 ≠ 0 → y j = x j) :
    kdot p m ml r (il N y) 0 = kadd p m (kdot p m ml r (il N x) 0) (kmul p m (lw ml) (kin (p ^ m) (r.getD i 0)) (kin (p ^ m) (y i))) := by
  have := dot_one (ml := ml) (m := m) hp hr hx h N (Nat.le_refl _)
  rw [if_pos hi, dot_full hr, dot_full hr] at this
  exact this
/-- The value that makes the row 0 is the one that peeling gives. -/
theorem pval_of (hp : 2 ≤ p) (hm : 1 ≤ m) (hF : IsF p m (lw ml)) {r : List Int} (hr : r.length = N) (hE : entS (p ^ m) r = 0) {x y : Nat → Int} {i : Nat} (hi : i < N) (hri : r.getD i 0 ≠ 0) (hx : x i = 0)
    (h : ∀ j, j < N → j ≠ i → r.getD j 0 ≠ 0 → y j = x j) (hy : 0 ≤ y i ∧ y i < ((p ^ m : Nat) : Int)) (hd : kdot p m ml r (il N y) 0 = 0) : y i = pval p m ml N r x i := by
  rw [dot_at hp hr hi hx h] at hd
  have hq : 1 ≤ p ^ m := Nat.pow_pos (by omega)
  have h1 := kneg_of' (by omega) (kmul_lt (by omega) _ _) hd
  obtain ⟨r0, r1⟩ := entS_rng hE (r.getD i 0) (by
    rw [List.getD_eq_getElem?_getD, List.getElem?_eq_getElem (by omega)]; exact List.getElem_mem _)
  have hz := kin_code r0 r1
  obtain ⟨z, hz'⟩ : ∃ z, kin (p ^ m) (r.getD i 0) = z := ⟨_, rfl⟩
  rw [hz'] at hz h1
  have hzl : z < p ^ m := by rw [← hz']; exact kin_lt hq _
  have hz1 : 1 ≤ z := by omega
  have h2 := kinv_mul hp hm hF hz1 hzl
  have h3 : kin (p ^ m) (y i) = kneg p m (kmul p m (lw ml) (kdot p m ml r (il N x) 0) (kinv p m ml z)) := by
    rw [← kneg_mul' (by omega), ← h1, kmul_comm z, kmul_assoc (by omega), h2, kmul_one hp hm (kin_lt hq _)]
  unfold pval
  rw [hz', ← h3, kin_code hy.1 hy.2]

theorem PeelW.sub {x x' : Nat → Int} {f f' : Nat → Bool} (h : PeelW p m ml N H x f x' f') : ∀ j, f' j = true → f j = true := by
  induction h with
  | done x f _ => exact fun _ h => h
  | step x f x' f' i j r _ _ _ _ _ ih =>
    intro k hk
    have := ih k hk
    unfold upd at this
    split at this
    · cases this
    · exact this
/-- A word that satisfies all rows without a position that is left agrees with what peeling gives. -/
theorem PeelW.follow (hp : 2 ≤ p) (hm : 1 ≤ m) (hF : IsF p m (lw ml)) (hH : ∀ r ∈ H, r.length = N ∧ entS (p ^ m) r = 0) {x x' : Nat → Int} {f f' : Nat → Bool} (h : PeelW p m ml N H x f x' f') {y : Nat → Int} (hyr : ∀ j, 0 ≤ y j ∧ y j < ((p ^ m : Nat) : Int))
    (hs : ∀ r ∈ H, inn f' (supp r) = [] → kdot p m ml r (il N y) 0 = 0) (hy : ∀ j, f j = false → y j = x j) (hz : ∀ j, f j = true → x j = 0) : (∀ j, f' j = false → y j = x' j) ∧ ∀ j, f' j = true → x' j = 0 := by
  induction h with
  | done x f _ => exact ⟨hy, hz⟩
  | step x f x' f' i j r hi hj ha hall hw ih =>
    have hr := hH r (List.mem_of_getElem? hj)
    have h1 := alone1_some ha
    have hmem : (i : Int) ∈ inn f (supp r) := by rw [h1]; simp
    obtain ⟨hms, hfi⟩ := List.mem_filter.1 hmem
    rw [Int.toNat_natCast] at hfi
    obtain ⟨hil, hri⟩ := supp_mem hms
    have hall2 : ∀ k, k < N → k ≠ i → r.getD k 0 ≠ 0 → f k = false := fun k hk hki hrk => by
      cases e : f k with
      | false => rfl
      | true =>
        have : (k : Int) ∈ inn f (supp r) := List.mem_filter.2 ⟨by
          unfold supp suppK
          exact mem_lft.2 ⟨by omega, decide_eq_true hrk⟩, by rw [Int.toNat_natCast]; exact e⟩
        rw [h1] at this
        simp at this
        omega
    have hin : inn f' (supp r) = [] := by
      unfold inn
      rw [List.filter_eq_nil_iff]
      intro z hz' hfz
      have h2 := hw.sub _ hfz
      unfold upd at h2
      split at h2
      · cases h2
      · rename_i hne
        have : z ∈ inn f (supp r) := List.mem_filter.2 ⟨hz', h2⟩
        rw [h1] at this
        simp at this
        omega
    have hyi := pval_of hp hm hF hr.1 hr.2 (by omega) hri (hz i hfi) (fun k hk hki hrk => hy k (hall2 k hk hki hrk)) (hyr i) (hs r (List.mem_of_getElem? hj) hin)
    refine ih hs (fun k hk => ?_) (fun k hk => ?_)
    · by_cases e : k = i
      · subst e; rw [upd_same]; exact hyi
      · rw [upd_ne _ _ e]; rw [upd_ne _ _ e] at hk; exact hy k hk
    · by_cases e : k = i
      · subst e; rw [upd_same] at hk; cases hk
      · rw [upd_ne _ _ e]; rw [upd_ne _ _ e] at hk; exact hz k hk
theorem pval_rng (hp : 2 ≤ p) (r : List Int) (x : Nat → Int) (i : Nat) : 0 ≤ pval p m ml N r x i ∧ pval p m ml N r x i < ((p ^ m : Nat) : Int) := by
  unfold pval
  have := kneg_lt (p := p) (m := m) (by omega) (kmul p m (lw ml) (kdot p m ml r (il N x) 0) (kinv p m ml (kin (p ^ m) (r.getD i 0))))
  omega
theorem PeelW.rng (hp : 2 ≤ p) {x x' : Nat → Int} {f f' : Nat → Bool} (h : PeelW p m ml N H x f x' f') (hx : ∀ j, 0 ≤ x j ∧ x j < ((p ^ m : Nat) : Int)) : ∀ j, 0 ≤ x' j ∧ x' j < ((p ^ m : Nat) : Int) := by
  induction h with
  | done x f _ => exact hx
  | step x f x' f' i j r _ _ _ _ _ ih =>
    refine ih fun k => ?_
    by_cases e : k = i
    · subst e; rw [upd_same]; exact pval_rng hp _ _ _
    · rw [upd_ne _ _ e]; exact hx k
theorem PeelW.keep {x x' : Nat → Int} {f f' : Nat → Bool} (h : PeelW p m ml N H x f x' f') : ∀ j, f j = false → x' j = x j := by
  induction h with
  | done x f _ => exact fun _ _ => rfl
  | step x f x' f' i j r hi hj ha _ _ ih =>
    intro k hk
    have hmem : (i : Int) ∈ inn f (supp r) := by rw [alone1_some ha]; simp
    have hfi := (List.mem_filter.1 hmem).2
    rw [Int.toNat_natCast] at hfi
    have hne : k ≠ i := fun e => by rw [e, hfi] at hk; cases hk
    rw [ih k (by rw [upd_ne _ _ hne]; exact hk), upd_ne _ _ hne]
end
theorem x0F_zero {w er : List Int} {j : Nat} (h : mkm er j = true) : x0F w er j = 0 := by
  unfold mkm at h
  unfold x0F
  rw [if_pos (of_decide_eq_true h)]
theorem x0F_rng {q : Nat} {w er : List Int} (h : entS q w = 0) (hq : 1 ≤ q) (j : Nat) : 0 ≤ x0F w er j ∧ x0F w er j < q := by
  unfold x0F
  split
  · omega
  · rw [List.getD_eq_getElem?_getD]
    cases e : w[j]? with
    | none => simp; omega
    | some y => exact entS_rng h y (List.mem_of_getElem? e)

section
variable {p m : Nat} {ml : List Int} {N : Nat}
/-- A row, multiplied by an element other than 0. -/
def Scl (p m : Nat) (ml : List Int) (r s : List Int) : Prop := ∃ a, 1 ≤ a ∧ a < p ^ m ∧ s = r.map fun y => ((kmul p m (lw ml) a (kin (p ^ m) y) : Nat) : Int)
theorem Scl.len {r s : List Int} (h : Scl p m ml r s) : s.length = r.length := by
  obtain ⟨a, _, _, rfl⟩ := h; simp
theorem Scl.ent {r s : List Int} (hp : 1 ≤ p) (h : Scl p m ml r s) : entS (p ^ m) s = 0 := by
  obtain ⟨a, _, _, rfl⟩ := h
  refine entS_of fun x hx => ?_
  obtain ⟨y, _, rfl⟩ := List.mem_map.1 hx
  have := kmul_lt (p := p) (m := m) (low := lw ml) hp a (kin (p ^ m) y)
  omega
theorem Scl.symm {r s : List Int} (hp : 2 ≤ p) (hm : 1 ≤ m) (hF : IsF p m (lw ml)) (hr : entS (p ^ m) r = 0) (h : Scl p m ml r s) : Scl p m ml s r := by
  obtain ⟨a, a1, a2, rfl⟩ := h
  obtain ⟨z, z1, z2, z3⟩ := hF.inv hp hm a1 a2
  have hq : 1 ≤ p ^ m := Nat.pow_pos (by omega)
  refine ⟨z, z1, z2, ?_⟩
  rw [List.map_map]
  conv => lhs; rw [← List.map_id r]
  refine List.map_congr_left fun y hy => ?_
  obtain ⟨y0, y1⟩ := entS_rng hr y hy
  simp only [Function.comp, id]
  rw [kin_of (kmul_lt (by omega) _ _), ← kmul_assoc (by omega), kmul_comm z, z3, one_kmul hp hm (kin_lt hq _), kin_code y0 y1]
theorem Scl.spt {r s : List Int} (hp : 2 ≤ p) (hm : 1 ≤ m) (hF : IsF p m (lw ml)) (hr : entS (p ^ m) r = 0) (h : Scl p m ml r s) : supp s = supp r := by
  have hl := h.len
  obtain ⟨a, a1, a2, rfl⟩ := h
  have hq : 1 ≤ p ^ m := Nat.pow_pos (by omega)
  unfold supp suppK lft
  rw [hl]
  congr 1
  refine List.filter_congr fun i hi => ?_
  have hi := List.mem_range.1 hi
  have e1 : (r.map fun y => ((kmul p m (lw ml) a (kin (p ^ m) y) : Nat) : Int)).getD i 0 = ((kmul p m (lw ml) a (kin (p ^ m) (r.getD i 0)) : Nat) : Int) := by
    rw [List.getD_eq_getElem?_getD, List.getD_eq_getElem?_getD, List.getElem?_map, List.getElem?_eq_getElem hi]; rfl
  rw [e1]
  obtain ⟨y0, y1⟩ := entS_rng hr (r.getD i 0) (by
    rw [List.getD_eq_getElem?_getD, List.getElem?_eq_getElem hi]; exact List.getElem_mem _)
  have hk := kin_code y0 y1
  generalize r.getD i 0 = y at *
  by_cases h0 : y = 0
  · subst h0
    rw [kin_zero, kmul_zero_r (by omega)]; rfl
  · have h1 := hF.ne_zero hp hm a1 a2 (show 1 ≤ kin (p ^ m) y by omega) (kin_lt hq _)
    rw [Bool.eq_iff_iff, decide_eq_true_iff, decide_eq_true_iff]
    exact ⟨fun _ => h0, fun _ => by omega⟩
theorem kmul_kadd_l {low : Vc} (hp : 1 ≤ p) (a x y : Nat) : kmul p m low a (kadd p m x y) = kadd p m (kmul p m low a x) (kmul p m low a y) := by
  rw [kmul_comm, kmul_kadd hp, kmul_comm x, kmul_comm y]
theorem kdot_scl (hp : 1 ≤ p) (a : Nat) : ∀ (r k : List Int) (s : Nat), kdot p m ml (r.map fun y => ((kmul p m (lw ml) a (kin (p ^ m) y) : Nat) : Int)) k (kmul p m (lw ml) a s) = kmul p m (lw ml) a (kdot p m ml r k s)
  | x :: r, y :: k, s => by
    simp only [List.map_cons, kdot]
    rw [kin_of (kmul_lt hp _ _), kmul_assoc hp, ← kmul_kadd_l hp]
    exact kdot_scl hp a r k _
  | [], k, s => by simp [kdot]
  | x :: r, [], s => by simp [kdot]
theorem Scl.dot {r s : List Int} (hp : 2 ≤ p) (hm : 1 ≤ m) (hF : IsF p m (lw ml)) (h : Scl p m ml r s) (k : List Int) (h0 : kdot p m ml r k 0 = 0) : kdot p m ml s k 0 = 0 := by
  obtain ⟨a, a1, a2, rfl⟩ := h
  have := kdot_scl (m := m) (ml := ml) (by omega : 1 ≤ p) a r k 0
  rw [kmul_zero_r (by omega), h0, kmul_zero_r (by omega)] at this
  exact this

/-- Each row of the one list is a row of the other one, multiplied by an element other than 0. -/
structure Rel (p m : Nat) (ml : List Int) (N : Nat) (H K : List (List Int)) : Prop where
  hH : ∀ r ∈ H, r.length = N ∧ entS (p ^ m) r = 0
  hK : ∀ r ∈ K, r.length = N ∧ entS (p ^ m) r = 0
  fwd : ∀ s ∈ K, ∃ r ∈ H, Scl p m ml r s
  bwd : ∀ r ∈ H, ∃ s ∈ K, Scl p m ml s r
theorem Rel.symm {H K : List (List Int)} (h : Rel p m ml N H K) : Rel p m ml N K H := ⟨h.hK, h.hH, h.bwd, h.fwd⟩
theorem rowsIn_supp {H : List (List Int)} (hH : ∀ r ∈ H, r.length = N ∧ entS (p ^ m) r = 0) : RowsIn N (H.map supp) := by
  intro i r k x hi hk
  rw [List.getElem?_map] at hi
  obtain ⟨s, h1, h2⟩ := Option.map_eq_some_iff.1 hi
  subst h2
  exact supp_in (hH s (List.mem_of_getElem? h1)).1 k x hk
theorem Rel.stops {H K : List (List Int)} (hp : 2 ≤ p) (hm : 1 ≤ m) (hF : IsF p m (lw ml)) (h : Rel p m ml N H K) {f : Nat → Bool} (hs : aloneI f (H.map supp) < 0) : aloneI f (K.map supp) < 0 := by
  rw [stops_iff (rowsIn_supp h.hK)]
  rw [stops_iff (rowsIn_supp h.hH)] at hs
  intro s hs'
  obtain ⟨s, h1, rfl⟩ := List.mem_map.1 hs'
  obtain ⟨r, h2, h3⟩ := h.fwd s h1
  rw [h3.spt hp hm hF (h.hH r h2).2]
  exact hs _ (List.mem_map.2 ⟨r, h2, rfl⟩)
theorem Rel.same {H K : List (List Int)} (hp : 2 ≤ p) (hm : 1 ≤ m) (hF : IsF p m (lw ml)) (h : Rel p m ml N H K) {f f1 f2 : Nat → Bool} (h1 : Peels (H.map supp) f f1) (h2 : Peels (K.map supp) f f2) : f1 = f2 := by
  funext j
  rw [Bool.eq_iff_iff]
  exact ⟨h2.great (rowsIn_supp h.hK) (h.stops hp hm hF h1.stops) h1.sub j, h1.great (rowsIn_supp h.hH) (h.symm.stops hp hm hF h2.stops) h2.sub j⟩
theorem failB_no {H : List (List Int)} {f : Nat → Bool} {x : Nat → Int} : failB p m ml N H f x = false ↔ ∀ r ∈ H, inn f (supp r) = [] → kdot p m ml r (il N x) 0 = 0 := by
  unfold failB
  rw [List.any_eq_false]
  constructor
  · intro h r hr hi
    have := h r hr
    rw [hi] at this
    simpa using this
  · intro h r hr hc
    rw [Bool.and_eq_true] at hc
    have h1 := h r hr (by simpa using hc.1)
    rw [h1] at hc
    simp at hc
theorem Rel.fails {H K : List (List Int)} (hp : 2 ≤ p) (hm : 1 ≤ m) (hF : IsF p m (lw ml)) (h : Rel p m ml N H K) {f : Nat → Bool} {x : Nat → Int} (h0 : failB p m ml N H f x = false) : failB p m ml N K f x = false := by
  rw [failB_no] at *
  intro s hs hi
  obtain ⟨r, h2, h3⟩ := h.fwd s hs
  rw [h3.spt hp hm hF (h.hH r h2).2] at hi
  exact h3.dot hp hm hF _ (h0 r h2 hi)
theorem Rel.words {H K : List (List Int)} (hp : 2 ≤ p) (hm : 1 ≤ m) (hF : IsF p m (lw ml)) (h : Rel p m ml N H K) {w er : List Int} (hw : entS (p ^ m) w = 0) {x1 x2 : Nat → Int} {f1 f2 : Nat → Bool}
    (h1 : PeelW p m ml N H (x0F w er) (mkm er) x1 f1) (h2 : PeelW p m ml N K (x0F w er) (mkm er) x2 f2) (h0 : failB p m ml N H f1 x1 = false) : x1 = x2 ∧ f1 = f2 ∧ failB p m ml N K f2 x2 = false := by
  have hq : 1 ≤ p ^ m := Nat.pow_pos (by omega)
  have e := h.same hp hm hF h1.peels h2.peels
  subst e
  have hr := h1.rng hp (x0F_rng hw hq)
  have hz : ∀ j, mkm er j = true → x0F w er j = 0 := fun j h => x0F_zero h
  have hk := failB_no.1 (h.fails hp hm hF h0)
  obtain ⟨k1, k2⟩ := h2.follow hp hm hF h.hK hr hk (fun j hj => h1.keep j hj) hz
  have k3 := (h1.follow hp hm hF h.hH hr (failB_no.1 h0) (fun j hj => h1.keep j hj) hz).2
  have e : x1 = x2 := by
    funext j
    cases ej : f1 j with
    | false => exact k1 j ej
    | true => rw [k2 j ej, k3 j ej]
  subst e
  exact ⟨rfl, rfl, h.fails hp hm hF h0⟩
theorem Rel.peelB {H K : List (List Int)} (hp : 2 ≤ p) (hm : 1 ≤ m) (hF : IsF p m (lw ml)) (h : Rel p m ml N H K) {w er X L X' L' : List Int} {e e' : Int} (a : PeelB p m ml N H w er X L e) (b : PeelB p m ml N K w er X' L' e') : X = X' ∧ L = L' ∧ e = e' := by
  unfold PeelB at a b
  by_cases h1 : w.length = N
  · by_cases h2 : entS (p ^ m) w = 0
    · cases h3 : risB N er with
      | false =>
        simp only [h1, h2, h3, ne_eq, not_true_eq_false, false_and, true_and, false_or, reduceCtorEq, or_false] at a b
        obtain ⟨rfl, rfl, rfl⟩ := a
        obtain ⟨rfl, rfl, rfl⟩ := b
        exact ⟨rfl, rfl, rfl⟩
      | true =>
        simp only [h1, h2, h3, ne_eq, not_true_eq_false, false_and, true_and, false_or, reduceCtorEq] at a b
        obtain ⟨x, f, hx, a⟩ := a
        obtain ⟨y, g, hy, b⟩ := b
        rcases a with ⟨a, rfl, rfl, rfl⟩ | ⟨a, rfl, rfl, rfl⟩
        · rcases b with ⟨_, rfl, rfl, rfl⟩ | ⟨b, _⟩
          · exact ⟨rfl, rfl, rfl⟩
          · obtain ⟨rfl, rfl, c⟩ := h.symm.words hp hm hF h2 hy hx b
            rw [a] at c; cases c
        · obtain ⟨rfl, rfl, c⟩ := h.words hp hm hF h2 hx hy a
          rcases b with ⟨b, _⟩ | ⟨_, rfl, rfl, rfl⟩
          · rw [c] at b; cases b
          · exact ⟨rfl, rfl, rfl⟩
    · simp only [h1, h2, ne_eq, not_true_eq_false, not_false_eq_true, false_and, true_and, false_or, or_false] at a b
      obtain ⟨rfl, rfl, rfl⟩ := a
      obtain ⟨rfl, rfl, rfl⟩ := b
      exact ⟨rfl, rfl, rfl⟩
  · simp only [h1, ne_eq, not_false_eq_true, false_and, true_and, or_false] at a b
    obtain ⟨rfl, rfl, rfl⟩ := a
    obtain ⟨rfl, rfl, rfl⟩ := b
    exact ⟨rfl, rfl, rfl⟩
end
theorem mchk_of {q : Nat} {cols : Int} {rows : List (List Int)} (h0 : 0 ≤ cols) (h1 : cols ≤ 256) (h2 : rows.length ≤ 256) (h : ∀ r ∈ rows, (r.length : Int) = cols ∧ entS q r = 0) : mchkS q cols rows = 0 := by
  unfold mchkS
  rw [if_neg (by omega), if_pos, if_pos]
  · rw [List.all_eq_true]
    intro r hr
    rw [(h r hr).2]; rfl
  · rw [List.all_eq_true]
    intro r hr
    simp [(h r hr).1]
/-- The rows in another order, each multiplied by an element other than 0: the same result. -/
theorem peelS_orders {pn mn N : Nat} {ml : List Int} {H K : List (List Int)} (hfl : FldB pn mn ml) (hmk : mchkS (pn ^ mn) N H = 0) (hl : K.length = H.length) (hrel : Rel pn mn ml N H K) {w er X L X' L' : List Int} {e e' : Int}
    (a : PeelS pn mn ml N H w er X L e) (b : PeelS pn mn ml N K w er X' L' e') : X = X' ∧ L = L' ∧ e = e' := by
  obtain ⟨s1, s2, s3, s4⟩ := mchk_shape hmk
  have hmk2 : mchkS (pn ^ mn) N K = 0 := mchk_of s1 s2 (by omega) fun r hr => by
    have := hrel.hK r hr
    exact ⟨by omega, this.2⟩
  have hc1 : ChkOut pn mn ml N H 0 := .inl ⟨pn, mn, rfl, rfl, hfl, hmk.symm⟩
  have hc2 : ChkOut pn mn ml N K 0 := .inl ⟨pn, mn, rfl, rfl, hfl, hmk2.symm⟩
  obtain ⟨pn', mn', e1, e2, hsh, hpr, hF⟩ := hfl
  have e1 : pn' = pn := by omega
  have e2 : mn' = mn := by omega
  subst e1 e2
  obtain ⟨V, gr, ge, ⟨ec, h1, h⟩, a⟩ := a
  obtain ⟨V', gr', ge', ⟨ec', k1, k⟩, b⟩ := b
  obtain rfl := h1.unique hc1
  obtain rfl := k1.unique hc2
  rcases h with ⟨h, _⟩ | ⟨_, h3, _, _, h4⟩ | ⟨_, h3, h4, _, _, h5⟩
  · exact absurd rfl h
  · rcases k with ⟨k, _⟩ | ⟨_, _, _, _, k4⟩ | ⟨_, k3, k4, _⟩
    · exact absurd rfl k
    · rcases a with ⟨_, rfl, rfl, rfl⟩ | ⟨a, _⟩
      · rcases b with ⟨_, rfl, rfl, rfl⟩ | ⟨b, _⟩
        · exact ⟨rfl, rfl, by omega⟩
        · omega
      · omega
    · omega
  · rcases k with ⟨k, _⟩ | ⟨_, k3, _⟩ | ⟨_, _, _, _, _, k5⟩
    · exact absurd rfl k
    · omega
    · rcases a with ⟨a, _⟩ | ⟨_, pa, ma, na, a1, a2, a3, _, _, _, _, _, a⟩
      · omega
      · rcases b with ⟨b, _⟩ | ⟨_, pb, mb, nb, b1, b2, b3, _, _, _, _, _, b⟩
        · omega
        · have e1 : pa = pn' := by omega
          have e2 : ma = mn' := by omega
          have e3 : na = N := by omega
          subst e1 e2 e3
          have e1 : pb = pa := by omega
          have e2 : mb = ma := by omega
          have e3 : nb = na := by omega
          subst e1 e2 e3
          exact hrel.peelB hsh.p2 hsh.m1 hF a b
end Go.Proofs.Ytpphaicbdeeacaa
