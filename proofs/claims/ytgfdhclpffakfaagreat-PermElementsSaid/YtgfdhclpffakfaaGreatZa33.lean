/- Plain: the canonical chain out of the list of all elements; the chapter's example. -/
import Derived.Test.YtgfdhclpffakfaaGreatZa30
import Derived.Test.YtgfdhclpffakfaaGreatZa32
namespace Go.Proofs.YtgfdhclpffakfaaGreat
set_option linter.unusedVariables false
set_option linter.unusedSimpArgs false

def hitA (A : Nat → Nat → Nat) (b x i : Nat) : Bool := fixB b (A i) && (A i b == x)
def orbA (n m : Nat) (A : Nat → Nat → Nat) (b : Nat) : List Nat := (List.range n).filter fun x => (List.range m).any (hitA A b x)
def firA (m : Nat) (A : Nat → Nat → Nat) (b x : Nat) : Nat := ((List.range m).find? (hitA A b x)).getD 0
def levA (n m : Nat) (A : Nat → Nat → Nat) (b : Nat) : Lv := ⟨b, il' (orbA n m A b), (orbA n m A b).map fun x => li n (A (firA m A b x))⟩
def chnA (n m : Nat) (A : Nat → Nat → Nat) (k : Nat) : List Lv := ((List.range k).map (levA n m A)).filter fun l => decide (1 < l.orb.length)
theorem hitA_iff {A : Nat → Nat → Nat} {b x i : Nat} : hitA A b x i = true ↔ FixP b (A i) ∧ A i b = x := by
  unfold hitA
  rw [Bool.and_eq_true, fixB_iff, beq_iff_eq]
theorem any_hitA {n m : Nat} {S : List (Nat → Nat)} {A : Nat → Nat → Nat} (h : GrpL n m S A) {b x : Nat} : (List.range m).any (hitA A b x) = true ↔ ∃ f, Gn S f ∧ FixP b f ∧ f b = x := by
  rw [List.any_eq_true]
  constructor
  · rintro ⟨i, hi, e⟩
    have := hitA_iff.1 e
    exact ⟨A i, (h.all _).2 ⟨i, List.mem_range.1 hi, rfl⟩, this⟩
  · rintro ⟨f, h1, h2, h3⟩
    obtain ⟨i, hi, rfl⟩ := (h.all f).1 h1
    exact ⟨i, List.mem_range.2 hi, hitA_iff.2 ⟨h2, h3⟩⟩
open Classical in
theorem orbA_eq {n m : Nat} {S : List (Nat → Nat)} {A : Nat → Nat → Nat} (h : GrpL n m S A) (b : Nat) : orbM S b n = orbA n m A b := by
  unfold orbM orbA
  apply List.filter_congr
  intro x _
  rw [Bool.eq_iff_iff, decide_eq_true_eq, any_hitA h]
theorem firA_lst {n m : Nat} {S : List (Nat → Nat)} {A : Nat → Nat → Nat} (h : GrpL n m S A) (hS : ∀ s ∈ S, IsP n s) {b x i : Nat} (hi : i < m) (h1 : FixP b (A i)) (h2 : A i b = x) (h3 : ∀ j, j < i → ¬ (FixP b (A j) ∧ A j b = x)) : lstP n S b x = A i :=
  lstP_eq hS (h.least hi h1 h2 h3)
theorem find_first {m : Nat} {p : Nat → Bool} (h : ∃ i, i < m ∧ p i = true) : ∃ i, i < m ∧ p i = true ∧ (∀ j, j < i → p j = false) ∧ (List.range m).find? p = some i := by
  obtain ⟨i0, hi0, hp0⟩ := h
  cases hf : (List.range m).find? p with
  | none => exact absurd (List.find?_eq_none.1 hf i0 (List.mem_range.2 hi0)) (by simp [hp0])
  | some i =>
    have h1 := List.find?_some hf
    have h2 := List.mem_range.1 (List.mem_of_find?_eq_some hf)
    refine ⟨i, h2, h1, fun j hj => ?_, rfl⟩
    rw [List.find?_eq_some_iff_append] at hf
    obtain ⟨_, as', bs, e, hall⟩ := hf
    have hlen : as'.length = i := by
      have h3 := congrArg (fun l => l[as'.length]?) e
      simp only [List.getElem?_append_right (Nat.le_refl _), Nat.sub_self, List.getElem?_cons_zero] at h3
      have h4 := (List.getElem?_eq_some_iff.1 h3)
      obtain ⟨h5, h6⟩ := h4
      simpa using h6
    have hj2 : j ∈ as' := by
      have h3 := congrArg (fun l => l[j]?) e
      simp only [List.getElem?_append_left (show j < as'.length by omega)] at h3
      rw [List.getElem?_eq_getElem (by simp; omega)] at h3
      have h4 : (List.range m)[j]'(by simp; omega) = j := by simp
      rw [h4] at h3
      exact List.mem_of_getElem? h3.symm
    have := hall j hj2
    simpa using this
theorem firA_eq {n m : Nat} {S : List (Nat → Nat)} {A : Nat → Nat → Nat} (h : GrpL n m S A) (hS : ∀ s ∈ S, IsP n s) {b x : Nat} (hx : x ∈ orbA n m A b) : lstP n S b x = A (firA m A b x) := by
  unfold orbA at hx
  have h1 := (List.mem_filter.1 hx).2
  obtain ⟨i0, hi0, e0⟩ := List.any_eq_true.1 h1
  obtain ⟨i, hi, h2, h3, h4⟩ := find_first ⟨i0, List.mem_range.1 hi0, e0⟩
  have hf : firA m A b x = i := by unfold firA; rw [h4]; rfl
  rw [hf]
  have h5 := hitA_iff.1 h2
  exact firA_lst h hS hi h5.1 h5.2 fun j hj k => by
    have := h3 j hj
    rw [hitA_iff.2 k] at this
    cases this
theorem levA_eq {n m : Nat} {S : List (Nat → Nat)} {A : Nat → Nat → Nat} (h : GrpL n m S A) (hS : ∀ s ∈ S, IsP n s) (b : Nat) : levB n S b = levA n m A b := by
  unfold levB levA repM
  rw [orbA_eq h]
  congr 1
  exact List.map_congr_left fun x hx => by rw [firA_eq h hS hx]
theorem chnA_eq {n m : Nat} {S : List (Nat → Nat)} {A : Nat → Nat → Nat} (h : GrpL n m S A) (hS : ∀ s ∈ S, IsP n s) (k : Nat) : chnK n S k = chnA n m A k := by
  unfold chnK chnA
  rw [show levB n S = levA n m A from funext (levA_eq h hS)]
theorem isP_fnL {l : List Int} (h : pchk l = 0) : IsP l.length (fnL l) := by
  obtain ⟨n, f, _, _, h1, h2, rfl⟩ := pchk_ok h
  rw [fnL_li h2, h1]; exact h2
theorem li_fnL {l : List Int} (h : pchk l = 0) : li l.length (fnL l) = l := by
  obtain ⟨n, f, _, _, h1, h2, rfl⟩ := pchk_ok h
  rw [fnL_li h2, h1]
theorem fnL_thL {n : Nat} {p q : List Int} (hp : pchk p = 0) (hq : pchk q = 0) (h1 : p.length = n) (h2 : q.length = n) : fnL (thL p q) = thenP (fnL p) (fnL q) := by
  have e1 := li_fnL hp
  have e2 := li_fnL hq
  have k1 := isP_fnL hp
  have k2 := isP_fnL hq
  rw [h1] at e1 k1
  rw [h2] at e2 k2
  have : thL p q = li n (thenP (fnL p) (fnL q)) := by
    conv => lhs; rw [← e1, ← e2]
    exact thL_li k1.lt
  rw [this, fnL_li (k1.comp k2)]
def wordL (n : Nat) (gens : List (List Int)) (w : List Nat) : List Int := w.foldl (fun p k => thL p (gens.getD k [])) (unL n)
/-- A group by its table. -/
theorem grp_table {n : Nat} {T gens : List (List Int)} (W : List (List Nat)) (h1 : ∀ r ∈ T, pchk r = 0 ∧ r.length = n) (h2 : ∀ r ∈ gens, pchk r = 0 ∧ r.length = n) (hn : n ≤ 64) (hn1 : 1 ≤ n) (hu : unL n ∈ T) (hc : ∀ r ∈ T, ∀ s ∈ gens, thL r s ∈ T) (hw : T = W.map (wordL n gens)) (hwk : ∀ w ∈ W, ∀ k ∈ w, k < gens.length) (f : Nat → Nat) :
    Gn (gens.map fnL) f ↔ ∃ r ∈ T, fnL r = f := by
  have hun : fnL (unL n) = idP := fnL_li (isP_id n)
  constructor
  · intro h
    induction h with
    | one => exact ⟨_, hu, hun⟩
    | step _ hs ih =>
      obtain ⟨r, hr, e⟩ := ih
      obtain ⟨s, hs1, e2⟩ := List.mem_map.1 hs
      exact ⟨thL r s, hc r hr s hs1, by rw [fnL_thL (h1 r hr).1 (h2 s hs1).1 (h1 r hr).2 (h2 s hs1).2, e, e2]⟩
  · rintro ⟨r, hr, rfl⟩
    rw [hw] at hr
    obtain ⟨w, hw1, rfl⟩ := List.mem_map.1 hr
    have key : ∀ (w : List Nat) (p : List Int), p ∈ T → Gn (gens.map fnL) (fnL p) → (∀ k ∈ w, k < gens.length) → Gn (gens.map fnL) (fnL (w.foldl (fun p k => thL p (gens.getD k [])) p)) := by
      intro w
      induction w with
      | nil => exact fun p _ h _ => h
      | cons k w ih =>
        intro p hp hg hk
        have hk0 := hk k (by simp)
        have hgk : gens.getD k [] ∈ gens := by
          rw [List.getD_eq_getElem?_getD, List.getElem?_eq_getElem hk0]; exact List.getElem_mem hk0
        rw [List.foldl_cons]
        refine ih _ (hc p hp _ hgk) ?_ fun j hj => hk j (by simp [hj])
        rw [fnL_thL (h1 p hp).1 (h2 _ hgk).1 (h1 p hp).2 (h2 _ hgk).2]
        exact hg.step (List.mem_map.2 ⟨_, hgk, rfl⟩)
    exact key w (unL n) hu (by rw [hun]; exact .one) (hwk w hw1)
/-- The chapter's example. -/
def awT : List (List Int) := [[0, 1, 2, 3], [0, 2, 1, 3], [1, 0, 2, 3], [1, 2, 0, 3], [2, 0, 1, 3], [2, 1, 0, 3]]
def awG : List (List Int) := [[1, 2, 0, 3], [0, 2, 1, 3]]
def awW : List (List Nat) := [[], [1], [1, 0], [0], [0, 0], [0, 1]]
def awC : List Lv := [⟨0, [0, 1, 2], [[0, 1, 2, 3], [1, 0, 2, 3], [2, 0, 1, 3]]⟩, ⟨1, [1, 2], [[0, 1, 2, 3], [0, 2, 1, 3]]⟩]
def awA (i : Nat) : Nat → Nat := fnL (awT.getD i [])
theorem aw_gn (f : Nat → Nat) : Gn (awG.map fnL) f ↔ ∃ r ∈ awT, fnL r = f :=
  grp_table (n := 4) awW (by decide) (by decide) (by omega) (by omega) (by decide) (by decide) (by decide) (by decide) f
theorem aw_grp : GrpL 4 6 (awG.map fnL) awA := by
  refine ⟨fun f => ?_, fun a b hab hb => ?_⟩
  · rw [aw_gn]
    constructor
    · rintro ⟨r, hr, rfl⟩
      obtain ⟨i, hi, e⟩ := List.getElem_of_mem hr
      exact ⟨i, hi, by unfold awA; rw [List.getD_eq_getElem?_getD, List.getElem?_eq_getElem hi]; exact congrArg fnL e⟩
    · rintro ⟨i, hi, rfl⟩
      refine ⟨awT.getD i [], ?_, rfl⟩
      have hi : i < awT.length := hi
      rw [List.getD_eq_getElem?_getD, List.getElem?_eq_getElem hi]
      exact List.getElem_mem hi
  · have hl : ∀ i, i < 6 → pchk (awT.getD i []) = 0 ∧ (awT.getD i []).length = 4 := by decide
    have hs : ∀ a, a < 6 → ∀ b, b < 6 → a < b → lessS (awT.getD a []) (awT.getD b []) = true := by decide
    have e1 := li_fnL (hl a (by omega)).1
    have e2 := li_fnL (hl b hb).1
    rw [(hl a (by omega)).2] at e1
    rw [(hl b hb).2] at e2
    refine lessS_li.1 ?_
    show lessS (li 4 (fnL (awT.getD a []))) (li 4 (fnL (awT.getD b []))) = true
    rw [e1, e2]
    exact hs a (by omega) b hb hab
theorem awS_isP : ∀ s ∈ awG.map fnL, IsP 4 s := fun s hs => by
  obtain ⟨r, hr, rfl⟩ := List.mem_map.1 hs
  have h : ∀ r ∈ awG, pchk r = 0 ∧ r.length = 4 := by decide
  have := isP_fnL (h r hr).1
  rwa [(h r hr).2] at this
theorem aw_bld : bldS 4 awG = (⟨4, awC⟩, 0) := by
  have h1 : gchk 4 awG = 0 := by decide
  have h2 : chnA 4 6 awA 4 = awC := by kernel_rfl
  unfold bldS
  rw [h1, if_neg (by decide)]
  show (Chn.mk 4 (chnK 4 (awG.map fnL) 4), (0 : Int)) = _
  rw [chnA_eq aw_grp awS_isP, h2]
end Go.Proofs.YtgfdhclpffakfaaGreat
