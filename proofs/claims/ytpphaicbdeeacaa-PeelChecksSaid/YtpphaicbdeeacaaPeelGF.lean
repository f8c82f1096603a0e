/- The reference's Sets and Smallest: plain, and the walks. -/
import Derived.Test.YtpphaicbdeeacaaPeelGE
import Derived.Test.YtpphaicbdeeacaaPeelMR
namespace Go.Proofs.Ytpphaicbdeeacaa
set_option linter.unusedVariables false
set_option linter.unusedSimpArgs false
open Go.RowKit

def catS {β : Type} (g : Nat → List β) : Nat → Nat → List β
  | _, 0 => []
  | i, k + 1 => g i ++ catS g (i + 1) k
def setsF (N : Nat) : Nat → Nat → List (List Int)
  | 0, _ => [[]]
  | s + 1, lo => catS (fun i => (setsF N s (i + 1)).map fun t => (i : Int) :: t) lo (N - lo)
theorem catS_snoc {β : Type} (g : Nat → List β) : ∀ (k i : Nat), catS g i (k + 1) = catS g i k ++ g (i + k)
  | 0, i => by simp [catS]
  | k + 1, i => by
    have h := catS_snoc g k (i + 1)
    show g i ++ catS g (i + 1) (k + 1) = (g i ++ catS g (i + 1) k) ++ g (i + (k + 1))
    rw [h, List.append_assoc, show i + 1 + k = i + (k + 1) by omega]
theorem catS_le {β : Type} (g : Nat → List β) {i k m : Nat} (h : k ≤ m) : (catS g i k).length ≤ (catS g i m).length := by
  induction m with
  | zero => rw [show k = 0 by omega]; exact Nat.le_refl _
  | succ m ih =>
    by_cases e : k = m + 1
    · rw [e]; exact Nat.le_refl _
    · rw [catS_snoc, List.length_append]
      have := ih (by omega)
      omega
theorem catS_len {β : Type} (g : Nat → List β) (N : Nat) (hg : ∀ i, i < N → (g i).length ≤ 2 ^ (N - i - 1)) : ∀ (k i : Nat), i + k = N → (catS g i k).length + 1 ≤ 2 ^ k
  | 0, i, _ => by simp [catS]
  | k + 1, i, h => by
    have h1 := catS_len g N hg k (i + 1) (by omega)
    have h2 := hg i (by omega)
    rw [show N - i - 1 = k by omega] at h2
    show (g i ++ catS g (i + 1) k).length + 1 ≤ _
    rw [List.length_append, Nat.pow_succ]
    omega
theorem setsF_len (N : Nat) : ∀ (s lo : Nat), (setsF N s lo).length ≤ 2 ^ (N - lo)
  | 0, lo => by
    show 1 ≤ _
    exact Nat.pow_pos (by omega)
  | s + 1, lo => by
    by_cases h : lo ≤ N
    · have := catS_len (fun i => (setsF N s (i + 1)).map fun t => (i : Int) :: t) N (fun i hi => by
        rw [List.length_map, Nat.sub_sub]
        exact setsF_len N s (i + 1)) (N - lo) lo (by omega)
      show (catS _ lo (N - lo)).length ≤ _
      omega
    · show (catS _ lo (N - lo)).length ≤ _
      rw [show N - lo = 0 by omega]; simp [catS]
theorem catS_mem {β : Type} {g : Nat → List β} {x : β} : ∀ {k i : Nat}, x ∈ catS g i k → ∃ j, i ≤ j ∧ j < i + k ∧ x ∈ g j
  | 0, i, h => by simp [catS] at h
  | k + 1, i, h => by
    rcases List.mem_append.1 (show x ∈ g i ++ catS g (i + 1) k from h) with h | h
    · exact ⟨i, Nat.le_refl _, by omega, h⟩
    · obtain ⟨j, h1, h2, h3⟩ := catS_mem h
      exact ⟨j, by omega, by omega, h3⟩
theorem setsF_ok (N : Nat) : ∀ (s lo : Nat) (t : List Int), t ∈ setsF N s lo → t.length = s ∧ t.Pairwise (· < ·) ∧ ∀ x ∈ t, (lo : Int) ≤ x ∧ x < N
  | 0, lo, t, h => by
    have : t = [] := by simpa [setsF] using h
    subst this; simp
  | s + 1, lo, t, h => by
    obtain ⟨i, h1, h2, h3⟩ := catS_mem (show t ∈ catS _ lo (N - lo) from h)
    obtain ⟨u, hu, rfl⟩ := List.mem_map.1 h3
    obtain ⟨k1, k2, k3⟩ := setsF_ok N s (i + 1) u hu
    refine ⟨by simp [k1], List.pairwise_cons.2 ⟨fun x hx => ?_, k2⟩, fun x hx => ?_⟩
    · have := k3 x hx; omega
    · rcases List.mem_cons.1 hx with rfl | hx
      · omega
      · have := k3 x hx; omega
theorem setsF_ris {N s : Nat} {t : List Int} (h : t ∈ setsF N s 0) : risB N t = true := by
  obtain ⟨_, h2, h3⟩ := setsF_ok N s 0 t h
  exact risB_of h2 fun x hx => by have := h3 x hx; omega
theorem setsF_none (N : Nat) : ∀ (s lo : Nat), N - lo < s → setsF N s lo = []
  | 0, lo, h => by omega
  | s + 1, lo, h => by
    show catS _ lo (N - lo) = []
    rw [List.eq_nil_iff_forall_not_mem]
    intro t ht
    obtain ⟨i, h1, h2, h3⟩ := catS_mem ht
    obtain ⟨u, hu, _⟩ := List.mem_map.1 h3
    rw [setsF_none N s (i + 1) (by omega)] at hu
    cases hu
theorem loopS_map {β γ : Type} {g : Nat → Option β} {h : Nat → Option γ} {f : β → γ} (hgh : ∀ i, h i = (g i).map f) : ∀ (k i : Nat), loopS h i k = (loopS g i k).map f
  | 0, i => rfl
  | k + 1, i => by
    have ih := loopS_map hgh k (i + 1)
    cases e : g i with
    | some y => rw [loopS_some (by rw [hgh, e]; rfl) rfl, loopS_some e rfl]; rfl
    | none => rw [loopS_none (by rw [hgh, e]; rfl) rfl, loopS_none e rfl, ih]
theorem loopS_more {β : Type} {g : Nat → Option β} : ∀ (k i m : Nat), k ≤ m → (∀ j, i + k ≤ j → j < i + m → g j = none) → loopS g i m = loopS g i k
  | 0, i, 0, _, _ => rfl
  | 0, i, m + 1, _, h => by
    rw [loopS_none (h i (by omega) (by omega)) rfl]
    exact (loopS_more 0 (i + 1) m (by omega) fun j h1 h2 => h j (by omega) (by omega))
  | k + 1, i, 0, h, _ => by omega
  | k + 1, i, m + 1, hk, h => by
    cases e : g i with
    | some y => rw [loopS_some e rfl, loopS_some e rfl]
    | none => rw [loopS_none e rfl, loopS_none e rfl, loopS_more k (i + 1) m (by omega) fun j h1 h2 => h j (by omega) (by omega)]
theorem find_catS {β : Type} (g : Nat → List β) (p : β → Bool) : ∀ (k i : Nat), (catS g i k).find? p = loopS (fun i => (g i).find? p) i k
  | 0, i => rfl
  | k + 1, i => by
    show (g i ++ catS g (i + 1) k).find? p = _
    rw [List.find?_append]
    cases e : (g i).find? p with
    | some y => rw [loopS_some e rfl]; rfl
    | none => rw [loopS_none e rfl, ← find_catS g p k (i + 1)]; rfl
def addL (f : Nat → Bool) (t : List Int) (j : Nat) : Bool := f j || decide ((j : Int) ∈ t)
theorem addL_cons (f : Nat → Bool) (i : Nat) (t : List Int) : addL f ((i : Int) :: t) = addL (upd f i true) t := by
  funext j
  unfold addL upd
  by_cases e : j = i
  · subst e; simp
  · have : ¬ (j : Int) = (i : Int) := by omega
    simp [e, this]
theorem srch_sets (rows : List (List Int)) (N : Nat) : ∀ (s first : Nat) (f : Nat → Bool), srchS rows N s first f = ((setsF N s first).find? fun t => decide (aloneI (addL f t) rows < 0)).map (addL f)
  | 0, first, f => by
    have e : addL f [] = f := by funext j; simp [addL]
    show (if aloneI f rows < 0 then some f else none) = (([[]] : List (List Int)).find? fun t => decide (aloneI (addL f t) rows < 0)).map (addL f)
    by_cases h : aloneI f rows < 0
    · rw [if_pos h, List.find?_cons_of_pos (by rw [e]; simpa using h), Option.map_some, e]
    · rw [if_neg h, List.find?_cons_of_neg (by rw [e]; simpa using h)]; rfl
  | s + 1, first, f => by
    show loopS (fun i => srchS rows N s (i + 1) (upd f i true)) first (N - s - first) = _
    show _ = ((catS (fun i => (setsF N s (i + 1)).map fun t => (i : Int) :: t) first (N - first)).find? _).map (addL f)
    rw [find_catS]
    have h1 : ∀ i, srchS rows N s (i + 1) (upd f i true) = (((setsF N s (i + 1)).map fun t => (i : Int) :: t).find? fun t => decide (aloneI (addL f t) rows < 0)).map (addL f) := fun i => by
      rw [srch_sets rows N s (i + 1) (upd f i true), List.find?_map, Option.map_map]
      have e1 : (fun t => decide (aloneI (addL f t) rows < 0)) ∘ (fun t => (i : Int) :: t) = fun t => decide (aloneI (addL (upd f i true) t) rows < 0) := by
        funext t; simp only [Function.comp]; rw [addL_cons]
      have e2 : addL f ∘ (fun t => (i : Int) :: t) = addL (upd f i true) := by
        funext t; simp only [Function.comp]; rw [addL_cons]
      rw [e1, e2]
    rw [loopS_map h1]
    congr 1
    refine (loopS_more _ _ _ (by omega) fun j hj hj2 => ?_).symm
    rw [setsF_none N s (j + 1) (by omega)]
    rfl
/-- The reference's first stopping set. -/
def rSm (rows : List (List Int)) (N : Nat) : Option (List Int) := loopS (fun s => (setsF N s 0).find? (stopsB rows)) 1 N
theorem loopS_from {β : Type} {g : Nat → Option β} {y : β} : ∀ {k i : Nat}, loopS g i k = some y → ∃ j, i ≤ j ∧ g j = some y
  | 0, i, h => by cases h
  | k + 1, i, h => by
    cases e : g i with
    | some z =>
      rw [loopS_some e rfl] at h
      injection h with h; subst h
      exact ⟨i, Nat.le_refl _, e⟩
    | none =>
      rw [loopS_none e rfl] at h
      obtain ⟨j, h1, h2⟩ := loopS_from h
      exact ⟨j, by omega, h2⟩
theorem find_congr {β : Type} {p q : β → Bool} : ∀ {l : List β}, (∀ x ∈ l, p x = q x) → l.find? p = l.find? q
  | [], _ => rfl
  | x :: l, h => by
    have ih := find_congr (l := l) fun y hy => h y (List.mem_cons_of_mem _ hy)
    have hx := h x (List.mem_cons_self ..)
    rw [List.find?_cons, List.find?_cons, hx, ih]
theorem smR_rSm {N : Nat} {rows : List (List Int)} (hr : RowsIn N rows) : smR N rows = (rSm rows N).map mkm := by
  unfold smR rSm
  refine loopS_map (fun s => ?_) N 1
  rw [srch_sets]
  have e : addL (fun _ => false) = mkm := by
    funext t j; unfold addL mkm; simp
  rw [e]
  congr 1
  refine find_congr fun t ht => ?_
  have h1 := asc_lft (setsF_ris ht)
  have h2 := stopsB_lft hr (mkm t)
  rw [← h1] at h2
  exact h2.symm
theorem rSm_lft {N : Nat} {rows : List (List Int)} {t : List Int} (h : rSm rows N = some t) : lft N (mkm t) = t := by
  obtain ⟨s, _, h2⟩ := loopS_from h
  exact (asc_lft (setsF_ris (List.mem_of_find?_eq_some h2))).symm
end Go.Proofs.Ytpphaicbdeeacaa
