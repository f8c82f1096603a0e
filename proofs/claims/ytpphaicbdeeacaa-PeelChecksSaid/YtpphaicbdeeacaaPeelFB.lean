/- Plain: the graph of the lists of neighbors; what peel.Girth says: the length of a shortest cycle. -/
import Derived.Test.YtpphaicbdeeacaaPeelFA
namespace Go.Proofs.Ytpphaicbdeeacaa
set_option linter.unusedVariables false
set_option linter.unusedSimpArgs false
open Go.RowKit

theorem ris_lt {n : Int} {l : List Int} (h : risB n l = true) {i k : Nat} {x y : Int} (hik : i < k) (hx : l[i]? = some x) (hy : l[k]? = some y) : x < y := by
  have step : ∀ (i : Nat) (hi : i + 1 < l.length), l[i] < l[i + 1] := fun i hi => by
    have h1 := risB_at h hi
    unfold risAt at h1
    have h2 := (of_decide_eq_true h1).2.2 (by omega)
    rw [Nat.add_sub_cancel, List.getD_eq_getElem?_getD, List.getD_eq_getElem?_getD, List.getElem?_eq_getElem hi, List.getElem?_eq_getElem (show i < l.length by omega)] at h2
    exact h2
  have far : ∀ (d i : Nat) (hi : i + 1 + d < l.length), l[i] < l[i + 1 + d] := fun d => by
    induction d with
    | zero => exact fun i hi => step i hi
    | succ d ih => exact fun i hi => Int.lt_trans (ih i (by omega)) (step (i + 1 + d) hi)
  obtain ⟨hil, ei⟩ := List.getElem?_eq_some_iff.1 hx
  obtain ⟨hkl, ek⟩ := List.getElem?_eq_some_iff.1 hy
  have := far (k - i - 1) i (by omega)
  simp only [show i + 1 + (k - i - 1) = k by omega] at this
  rw [ei, ek] at this
  exact this

section
variable {N : Nat} {rows : List (List Int)}
/-- The edges of the first j rows and of the first k entries of row j: from the check's vertex to the variable. -/
def Edp (N : Nat) (rows : List (List Int)) (j k c v : Nat) : Prop := ∃ (i : Nat) (r : List Int) (e : Nat), rows[i]? = some r ∧ c = N + i ∧ r[e]? = some (v : Int) ∧ (i < j ∨ (i = j ∧ e < k))
def Pe (N : Nat) (rows : List (List Int)) (j k x y : Nat) : Prop := Edp N rows j k x y ∨ Edp N rows j k y x
theorem Pe.symm {j k x y : Nat} (h : Pe N rows j k x y) : Pe N rows j k y x := Or.symm h
theorem Pe.zero {x y : Nat} : ¬ Pe N rows 0 0 x y := by
  rintro (⟨i, r, e, _, _, _, h⟩ | ⟨i, r, e, _, _, _, h⟩) <;> omega
theorem Edp.lt (hr : RowsIn N rows) {j k c v : Nat} (h : Edp N rows j k c v) : v < N ∧ N ≤ c ∧ c < N + rows.length := by
  obtain ⟨i, r, e, h1, h2, h3, _⟩ := h
  have := hr i r e v h1 h3
  have := (List.getElem?_eq_some_iff.1 h1).1
  omega
theorem Edp.succ {j k X : Nat} {r : List Int} (hj : rows[j]? = some r) (hk : r[k]? = some (X : Int)) {c v : Nat} : Edp N rows j (k + 1) c v ↔ Edp N rows j k c v ∨ (c = N + j ∧ v = X) := by
  constructor
  · rintro ⟨i, s, e, h1, h2, h3, h4⟩
    by_cases he : i = j ∧ e = k
    · obtain ⟨rfl, rfl⟩ := he
      rw [hj] at h1; injection h1 with h1; subst h1
      rw [hk] at h3; injection h3 with h3
      exact .inr ⟨h2, by omega⟩
    · exact .inl ⟨i, s, e, h1, h2, h3, by omega⟩
  · rintro (⟨i, s, e, h1, h2, h3, h4⟩ | ⟨rfl, rfl⟩)
    · exact ⟨i, s, e, h1, h2, h3, by omega⟩
    · exact ⟨j, r, k, hj, rfl, hk, by omega⟩
theorem Edp.row {j : Nat} {r : List Int} (hj : rows[j]? = some r) {c v : Nat} : Edp N rows j r.length c v ↔ Edp N rows (j + 1) 0 c v := by
  constructor
  · rintro ⟨i, s, e, h1, h2, h3, h4⟩
    exact ⟨i, s, e, h1, h2, h3, by omega⟩
  · rintro ⟨i, s, e, h1, h2, h3, h4⟩
    refine ⟨i, s, e, h1, h2, h3, ?_⟩
    by_cases he : i = j
    · subst he
      rw [hj] at h1; injection h1 with h1; subst h1
      have := (List.getElem?_eq_some_iff.1 h3).1
      exact .inr ⟨rfl, this⟩
    · omega
theorem Pe.succ {j k X : Nat} {r : List Int} (hj : rows[j]? = some r) (hk : r[k]? = some (X : Int)) {x y : Nat} : Pe N rows j (k + 1) x y ↔ Pe N rows j k x y ∨ (x = N + j ∧ y = X) ∨ (x = X ∧ y = N + j) := by
  unfold Pe
  rw [Edp.succ hj hk, Edp.succ hj hk]
  constructor
  · rintro ((h | h) | (h | ⟨rfl, rfl⟩))
    · exact .inl (.inl h)
    · exact .inr (.inl h)
    · exact .inl (.inr h)
    · exact .inr (.inr ⟨rfl, rfl⟩)
  · rintro ((h | h) | h | ⟨rfl, rfl⟩)
    · exact .inl (.inl h)
    · exact .inr (.inl h)
    · exact .inl (.inr h)
    · exact .inr (.inr ⟨rfl, rfl⟩)
theorem Pe.row {j : Nat} {r : List Int} (hj : rows[j]? = some r) {x y : Nat} : Pe N rows j r.length x y ↔ Pe N rows (j + 1) 0 x y := by
  unfold Pe; rw [Edp.row hj, Edp.row hj]
/-- A new edge. -/
theorem Edp.fresh {V : Int} {j k X : Nat} {r : List Int} (hj : rows[j]? = some r) (hk : r[k]? = some (X : Int)) (hris : risB V r = true) : ¬ Edp N rows j k (N + j) X := by
  rintro ⟨i, s, e, h1, h2, h3, h4⟩
  have : i = j := by omega
  subst this
  rw [hj] at h1; injection h1 with h1; subst h1
  have := ris_lt hris (show e < k by omega) h3 hk
  omega
theorem Pe.fresh {V : Int} (hr : RowsIn N rows) {j k X : Nat} {r : List Int} (hj : rows[j]? = some r) (hk : r[k]? = some (X : Int)) (hris : risB V r = true) : ¬ Pe N rows j k X (N + j) := by
  rintro (h | h)
  · have := h.lt hr
    have := hr j r k X hj hk
    omega
  · exact Edp.fresh hj hk hris h
/-- The lists of neighbors hold the edges, each once. -/
structure NbI (N : Nat) (rows : List (List Int)) (j k : Nat) (L : Nat → List Int) : Prop where
  mem : ∀ (x : Nat) (y : Int), y ∈ L x ↔ ∃ Y : Nat, y = Y ∧ Pe N rows j k x Y
  nd : ∀ x, (L x).Nodup
theorem NbI.adde {V : Int} (hr : RowsIn N rows) {j k X : Nat} {r : List Int} (hj : rows[j]? = some r) (hk : r[k]? = some (X : Int)) (hris : risB V r = true) {L : Nat → List Int} (h : NbI N rows j k L) : NbI N rows j (k + 1) (addE N j L X) := by
  have hX : X < N := by have := hr j r k X hj hk; omega
  have hf := Pe.fresh hr hj hk hris
  have e1 : addE N j L X X = L X ++ [((N + j : Nat) : Int)] := by
    unfold addE
    rw [upd_ne _ _ (by omega), upd_same]
  have e2 : addE N j L X (N + j) = L (N + j) ++ [(X : Int)] := by
    unfold addE
    rw [upd_same, upd_ne _ _ (by omega)]
  have e3 : ∀ x, x ≠ X → x ≠ N + j → addE N j L X x = L x := fun x h1 h2 => by
    unfold addE
    rw [upd_ne _ _ h2, upd_ne _ _ h1]
  refine ⟨fun x y => ?_, fun x => ?_⟩
  · by_cases hx : x = X
    · subst hx
      rw [e1, List.mem_append, h.mem]
      constructor
      · rintro (⟨Y, rfl, hp⟩ | hy)
        · exact ⟨Y, rfl, (Pe.succ hj hk).2 (.inl hp)⟩
        · simp at hy
          exact ⟨N + j, by omega, (Pe.succ hj hk).2 (.inr (.inr ⟨rfl, rfl⟩))⟩
      · rintro ⟨Y, rfl, hp⟩
        rcases (Pe.succ hj hk).1 hp with hp | ⟨h1, h2⟩ | ⟨_, h2⟩
        · exact .inl ⟨Y, rfl, hp⟩
        · omega
        · right; simp; omega
    · by_cases hx2 : x = N + j
      · subst hx2
        rw [e2, List.mem_append, h.mem]
        constructor
        · rintro (⟨Y, rfl, hp⟩ | hy)
          · exact ⟨Y, rfl, (Pe.succ hj hk).2 (.inl hp)⟩
          · simp at hy
            exact ⟨X, by omega, (Pe.succ hj hk).2 (.inr (.inl ⟨rfl, rfl⟩))⟩
        · rintro ⟨Y, rfl, hp⟩
          rcases (Pe.succ hj hk).1 hp with hp | ⟨_, h2⟩ | ⟨h1, _⟩
          · exact .inl ⟨Y, rfl, hp⟩
          · right; simp; omega
          · omega
      · rw [e3 x hx hx2, h.mem]
        constructor
        · rintro ⟨Y, rfl, hp⟩
          exact ⟨Y, rfl, (Pe.succ hj hk).2 (.inl hp)⟩
        · rintro ⟨Y, rfl, hp⟩
          rcases (Pe.succ hj hk).1 hp with hp | ⟨h1, _⟩ | ⟨h1, _⟩
          · exact ⟨Y, rfl, hp⟩
          · exact absurd h1 hx2
          · exact absurd h1 hx
  · have app : ∀ (l : List Int) (z : Int), l.Nodup → z ∉ l → (l ++ [z]).Nodup := fun l z h1 h2 => by
      rw [List.nodup_append]
      refine ⟨h1, by simp, fun a ha b hb => ?_⟩
      simp at hb; subst hb
      exact fun e => h2 (e ▸ ha)
    by_cases hx : x = X
    · subst hx
      rw [e1]
      refine app _ _ (h.nd x) fun hm => ?_
      obtain ⟨Y, hY, hp⟩ := (h.mem x _).1 hm
      have : Y = N + j := by omega
      subst this; exact hf hp
    · by_cases hx2 : x = N + j
      · subst hx2
        rw [e2]
        refine app _ _ (h.nd (N + j)) fun hm => ?_
        obtain ⟨Y, hY, hp⟩ := (h.mem _ _).1 hm
        have : Y = X := by omega
        subst this; exact hf hp.symm
      · rw [e3 x hx hx2]; exact h.nd x
theorem NbI.cong {j k j' k' : Nat} {L : Nat → List Int} (h : NbI N rows j k L) (he : ∀ x y, Pe N rows j k x y ↔ Pe N rows j' k' x y) : NbI N rows j' k' L :=
  ⟨fun x y => by
    rw [h.mem]
    constructor
    · rintro ⟨Y, h1, h2⟩; exact ⟨Y, h1, (he _ _).1 h2⟩
    · rintro ⟨Y, h1, h2⟩; exact ⟨Y, h1, (he _ _).2 h2⟩, h.nd⟩
theorem NbI.rowK {V : Int} (hr : RowsIn N rows) {j : Nat} {r : List Int} (hj : rows[j]? = some r) (hris : risB V r = true) {L : Nat → List Int} (h : NbI N rows j 0 L) : ∀ k, k ≤ r.length → NbI N rows j k (nbRK N j L r k)
  | 0, _ => by
    have : nbRK N j L r 0 = L := by unfold nbRK nbRow; simp
    rw [this]; exact h
  | k + 1, hk => by
    obtain ⟨x, hx⟩ : ∃ x, r[k]? = some x := ⟨_, List.getElem?_eq_getElem (by omega)⟩
    obtain ⟨x1, _⟩ := hr j r k x hj hx
    obtain ⟨X, rfl⟩ : ∃ X : Nat, x = X := ⟨x.toNat, by omega⟩
    rw [nbRK_succ hx]
    exact (h.rowK hr hj hris k (by omega)).adde hr hj hx hris
theorem nbK_I {V : Int} (hr : RowsIn N rows) (hris : ∀ r ∈ rows, risB V r = true) : ∀ j, j ≤ rows.length → NbI N rows j 0 (nbK N rows j)
  | 0, _ => by
    have : nbK N rows 0 = fun _ => [] := by unfold nbK; simp
    rw [this]
    refine ⟨fun x y => ?_, fun x => by simp⟩
    constructor
    · intro h; cases h
    · rintro ⟨Y, _, h⟩; exact absurd h Pe.zero
  | j + 1, hj => by
    obtain ⟨r, hrj⟩ : ∃ r, rows[j]? = some r := ⟨_, List.getElem?_eq_getElem (by omega)⟩
    rw [nbK_succ hrj, ← nbRK_all]
    exact ((nbK_I hr hris j (by omega)).rowK hr hrj (hris r (List.mem_of_getElem? hrj)) r.length (Nat.le_refl _)).cong fun x y => Pe.row hrj
theorem nbL_I {V : Int} (hr : RowsIn N rows) (hris : ∀ r ∈ rows, risB V r = true) : NbI N rows rows.length 0 (nbL N rows) := by
  have h := nbK_I hr hris rows.length (Nat.le_refl _)
  rw [nbK_all] at h
  have e : nbL N rows = nbAll N rows := by
    funext x
    by_cases hx : x < N + rows.length
    · exact nbL_eq hx
    · have h1 : nbL N rows x = [] := by
        unfold nbL nbM
        rw [List.getD_eq_getElem?_getD, List.getElem?_eq_none (by simp; omega)]; rfl
      have h2 : nbAll N rows x = [] := by
        rw [List.eq_nil_iff_forall_not_mem]
        intro y hy
        obtain ⟨Y, _, hp⟩ := (h.mem x y).1 hy
        rcases hp with hp | hp <;> have := hp.lt hr <;> omega
      rw [h1, h2]
  rw [e]; exact h
theorem lnk_iff {V : Int} (hr : RowsIn N rows) (hris : ∀ r ∈ rows, risB V r = true) {x y : Nat} : Lnk (nbL N rows) x y ↔ Pe N rows rows.length 0 x y := by
  unfold Lnk
  rw [(nbL_I hr hris).mem]
  constructor
  · rintro ⟨Y, h1, h2⟩
    have : Y = y := by omega
    subst this; exact h2
  · exact fun h => ⟨y, rfl, h⟩
theorem nbL_gr {V : Int} (hr : RowsIn N rows) (hris : ∀ r ∈ rows, risB V r = true) : Gr (nbL N rows) := by
  have h := nbL_I hr hris
  refine ⟨fun i x hx => ?_, fun i j hj => ?_, h.nd, fun i hi => ?_⟩
  · obtain ⟨Y, rfl, _⟩ := (h.mem i x).1 hx; omega
  · exact (lnk_iff hr hris).2 ((lnk_iff hr hris).1 hj).symm
  · rcases (lnk_iff hr hris).1 hi with hp | hp <;> have := hp.lt hr <;> omega
/-- A variable and a check at the ends of each edge. -/
theorem lnk_side {V : Int} (hr : RowsIn N rows) (hris : ∀ r ∈ rows, risB V r = true) {x y : Nat} (h : Lnk (nbL N rows) x y) : (x < N ↔ ¬ y < N) := by
  rcases (lnk_iff hr hris).1 h with hp | hp <;> have := hp.lt hr <;> omega

/-- A cycle through an edge, as a closed walk without a step back. -/
theorem Byp.closed {L : Nat → List Int} (hg : Gr L) {d a b : Nat} (h : Byp L d a b) : ∃ g c, 1 ≤ g ∧ g ≤ d + 1 ∧ Nb (Lnk L) g b b c := by
  obtain ⟨hab, hw⟩ := h
  obtain ⟨m, c, hm, hc⟩ := hw.nb
  refine ⟨m + 1, fun k => if k = 0 then b else c (k - 1), by omega, by omega, ⟨by simp, by simp [hc.cn], fun k hk => ?_, fun k hk => ?_⟩⟩
  · by_cases e : k = 0
    · subst e
      show Lnk L (if 0 = 0 then b else c (0 - 1)) (if 0 + 1 = 0 then b else c (0 + 1 - 1))
      rw [if_pos rfl, if_neg (by omega), Nat.zero_add, Nat.sub_self, hc.c0]
      exact hg.sym _ _ hab
    · show Lnk L (if k = 0 then b else c (k - 1)) (if k + 1 = 0 then b else c (k + 1 - 1))
      rw [if_neg e, if_neg (by omega)]
      have := (hc.st (k - 1) (by omega)).1
      rwa [show k - 1 + 1 = k + 1 - 1 by omega] at this
  · by_cases e : k = 0
    · subst e
      show (if 0 = 0 then b else c (0 - 1)) ≠ (if 0 + 2 = 0 then b else c (0 + 2 - 1))
      rw [if_pos rfl, if_neg (by omega)]
      intro e
      have := (hc.st 0 (by omega)).2.1
      exact this ⟨hc.c0, e.symm⟩
    · show (if k = 0 then b else c (k - 1)) ≠ (if k + 2 = 0 then b else c (k + 2 - 1))
      rw [if_neg e, if_neg (by omega)]
      have := hc.nb (k - 1) (by omega)
      rwa [show k - 1 + 2 = k + 2 - 1 by omega] at this
theorem GirK.spec {L : Nat → List Int} (hg : Gr L) {k : Nat} {n : Int} (h : GirK L k n) : 0 ≤ n ∧ (0 < n → ∃ d a c : Nat, n = d + 1 ∧ Byp L d a c) ∧ ∀ (v g : Nat) (c : Nat → Nat), v < k → 1 ≤ g → Nb (Lnk L) g v v c → 0 < n ∧ n ≤ g := by
  induction h with
  | zero => exact ⟨Int.le_refl _, fun h => absurd h (by omega), fun v g c hv => absurd hv (by omega)⟩
  | succ k g n _ hb ih =>
    obtain ⟨h1, h2, h3⟩ := ih
    obtain ⟨k1, k2, k3⟩ := around_spec hg hb
    unfold gmin
    by_cases e : 0 < n ∧ (g = 0 ∨ n < g)
    · rw [if_pos e]
      refine ⟨k1, k2, fun v l c hv hl hc => ?_⟩
      by_cases ev : v = k
      · subst ev; exact k3 l c hl hc
      · have := h3 v l c (by omega) hl hc; omega
    · rw [if_neg e]
      refine ⟨h1, h2, fun v l c hv hl hc => ?_⟩
      by_cases ev : v = k
      · subst ev; have := k3 l c hl hc; omega
      · exact h3 v l c (by omega) hl hc
/-- What peel.Girth says: the length of a shortest cycle, or 0. -/
theorem GirOut.spec {n : Int} (hp : pchkS N rows = 0) (h : GirOut N rows n) : 0 ≤ n ∧ (0 < n → ∃ d a c : Nat, n = d + 1 ∧ Byp (nbL N rows) d a c) ∧ ∀ d a c : Nat, Byp (nbL N rows) d a c → 0 < n ∧ n ≤ d + 1 := by
  obtain ⟨N', e, _, _, _, hr, hris⟩ := pchkS_ok hp
  have : N' = N := by omega
  subst this
  have hg := nbL_gr hr hris
  have hk := h.2 hp
  rw [Int.toNat_natCast] at hk
  obtain ⟨h1, h2, h3⟩ := hk.spec hg
  refine ⟨h1, h2, fun d a c hb => ?_⟩
  have key : ∀ a c, c < N' → Byp (nbL N' rows) d a c → 0 < n ∧ n ≤ d + 1 := fun a c hc hb => by
    obtain ⟨g, f, g1, g2, hf⟩ := hb.closed hg
    have := h3 c g f hc g1 hf
    omega
  have hs := lnk_side hr hris hb.1
  by_cases hc : c < N'
  · exact key a c hc hb
  · exact key c a (by have : Lnk (nbL N' rows) a c := hb.1; omega) (hb.symm hg)
/-- A walk's ends lie on one side exactly if its length is even. -/
theorem Wk.side {A : Nat → Nat → Prop} (hA : ∀ x y, A x y → (x < N ↔ ¬ y < N)) {n x y : Nat} (h : Wk A n x y) : (x < N ↔ y < N) ↔ n % 2 = 0 := by
  induction h with
  | nil x => simp
  | cons n x y z a _ ih =>
    have := hA x y a
    by_cases hx : x < N <;> by_cases hy : y < N <;> by_cases hz : z < N <;> simp_all <;> omega
theorem Byp.even {V : Int} (hr : RowsIn N rows) (hris : ∀ r ∈ rows, risB V r = true) {d a c : Nat} (h : Byp (nbL N rows) d a c) : (d + 1) % 2 = 0 ∧ 4 ≤ d + 1 := by
  have hs := lnk_side hr hris h.1
  have hw := h.2.side (N := N) fun x y hxy => lnk_side hr hris hxy.1
  have hodd : d % 2 = 1 := by
    by_cases hx : a < N <;> by_cases hy : c < N <;> simp_all
  refine ⟨by omega, ?_⟩
  by_cases e : d = 1
  · exfalso
    subst e
    obtain ⟨_, hw2⟩ := h
    cases hw2 with
    | cons _ _ y _ h1 h2 =>
      cases h2
      exact h1.2.1 ⟨rfl, rfl⟩
  · omega
end
end Go.Proofs.Ytpphaicbdeeacaa
