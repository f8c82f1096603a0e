/- Plain: the reference's search for a way beside an edge. -/
import Derived.Test.YtpphaicbdeeacaaPeelFC
namespace Go.Proofs.Ytpphaicbdeeacaa
set_option linter.unusedVariables false
set_option linter.unusedSimpArgs false
open Go.RowKit

/-- The edges but the one between check i and variable v. -/
def AvP (N : Nat) (rows : List (List Int)) (i v x y : Nat) : Prop := Rm (Pe N rows rows.length 0) (N + i) v x y
/-- What the search answers. -/
def PthO (N : Nat) (rows : List (List Int)) (i v : Nat) (d : Int) : Prop := 0 ≤ d ∧ (∀ n : Nat, Wk (AvP N rows i v) n (N + i) v → 0 < d ∧ d ≤ n) ∧ (0 < d → ∃ n : Nat, d = n ∧ Wk (AvP N rows i v) n (N + i) v)
section
variable {N : Nat} {rows : List (List Int)} {i v : Nat}
theorem Pe.lt (hr : RowsIn N rows) {j k x y : Nat} (h : Pe N rows j k x y) : x < N + rows.length ∧ y < N + rows.length := by
  rcases h with h | h <;> have := h.lt hr <;> omega
structure PI (N : Nat) (rows : List (List Int)) (i v : Nat) (far : Nat → Int) (q : List Int) (pr : Nat → Nat → Prop) (D : Int) : Prop where
  bi : BI (AvP N rows i v) (N + i) far q pr D
  rng : ∀ x, -1 ≤ far x ∧ far x ≤ q.length
  cnt : q.length = (lft (N + rows.length) fun x => decide (0 ≤ far x)).length
variable {far : Nat → Int} {q : List Int} {pr : Nat → Nat → Prop} {D : Int}
theorem PI.cong {pr' : Nat → Nat → Prop} (h : PI N rows i v far q pr D) (hp : ∀ x y, pr' x y → pr x y) : PI N rows i v far q pr' D := ⟨h.bi.cong hp, h.rng, h.cnt⟩
theorem PI.next {D' : Int} (h : PI N rows i v far q pr D) (hD : D ≤ D') : PI N rows i v far q pr D' := ⟨h.bi.next hD, h.rng, h.cnt⟩
theorem PI.lt (hr : RowsIn N rows) (hi : i < rows.length) (h : PI N rows i v far q pr D) {x : Nat} (hx : 0 ≤ far x) : x < N + rows.length := by
  by_cases e : x = N + i
  · omega
  · obtain ⟨p, hp, _, _⟩ := h.bi.up x hx e
    exact (hp.1.lt hr).2
theorem PI.qM (h : PI N rows i v far q pr D) : q.length ≤ N + rows.length := by rw [h.cnt]; exact lft_len _ _
theorem PI.init (hi : i < rows.length) : PI N rows i v (upd (fun _ => -1) (N + i) 0) [((N + i : Nat) : Int)] (fun _ _ => False) 0 := by
  refine ⟨BI.init, fun x => ?_, ?_⟩
  · by_cases e : x = N + i
    · subst e; rw [upd_same]; simp
    · rw [upd_ne _ _ e]; simp
  · have h1 : (lft (N + rows.length) (upd (fun _ => false) (N + i) true)).length = (lft (N + rows.length) fun _ => false).length + 1 := lft_put rfl _ (by omega)
    have h2 : (lft (N + rows.length) fun _ => false) = [] := by simp [lft]
    rw [h2] at h1
    show (1 : Nat) = _
    rw [show (1 : Nat) = (lft (N + rows.length) (upd (fun _ => false) (N + i) true)).length by rw [h1]; rfl]
    congr 1
    refine lft_congr _ fun j _ => ?_
    by_cases e : j = N + i
    · subst e; rw [upd_same, upd_same]; rfl
    · rw [upd_ne _ _ e, upd_ne _ _ e]; rfl
theorem PI.new (h : PI N rows i v far q pr D) {X w : Nat} (hX : far X = D) (h0 : 0 ≤ D) (ha : AvP N rows i v X w) (hw : far w < 0) (hM : w < N + rows.length) :
    PI N rows i v (upd far w (far X + 1)) (q ++ [(w : Int)]) (fun x y => pr x y ∨ (x = X ∧ y = w)) D := by
  refine ⟨h.bi.new hX h0 ha hw, fun x => ?_, ?_⟩
  · have h1 := h.rng x
    have h2 := h.rng X
    rw [List.length_append, List.length_singleton]
    by_cases e : x = w
    · subst e; rw [upd_same]; omega
    · rw [upd_ne _ _ e]; omega
  · rw [List.length_append, List.length_singleton, h.cnt, ← lft_put (x := w) (by simpa using hw) _ hM]
    congr 1
    refine lft_congr _ fun j _ => ?_
    by_cases e : j = w
    · subst e; rw [upd_same, upd_same]; simp; omega
    · rw [upd_ne _ _ e, upd_ne _ _ e]
theorem PI.old (h : PI N rows i v far q pr D) {X w : Nat} (hX : far X = D) (h0 : 0 ≤ D) (hw : 0 ≤ far w) : PI N rows i v far q (fun x y => pr x y ∨ (x = X ∧ y = w)) D := ⟨h.bi.old hX h0 hw, h.rng, h.cnt⟩

def PrK (N : Nat) (rows : List (List Int)) (i v : Nat) (q : List Int) (k x y : Nat) : Prop := (∃ e, e < k ∧ q[e]? = some (x : Int)) ∧ AvP N rows i v x y
def PrI (N : Nat) (rows : List (List Int)) (i v : Nat) (q : List Int) (k X j a x y : Nat) : Prop := PrK N rows i v q k x y ∨ (x = X ∧ Rm (Pe N rows j a) (N + i) v X y)
/-- Within the search: vertex X at place k of the queue is at work, the edges of the first j rows and a entries are done. -/
structure PIn (N : Nat) (rows : List (List Int)) (i v : Nat) (far : Nat → Int) (q : List Int) (k X j a : Nat) : Prop where
  pi : PI N rows i v far q (PrI N rows i v q k X j a) (far X)
  kq : q[k]? = some (X : Int)
variable {k X j a : Nat}
theorem PIn.x0 (h : PIn N rows i v far q k X j a) : 0 ≤ far X := (h.pi.bi.mem X).2 (List.mem_of_getElem? h.kq)
theorem PIn.skip (h : PIn N rows i v far q k X j a) {r : List Int} {Y : Nat} (hj : rows[j]? = some r) (ha : r[a]? = some (Y : Int)) (hs : (j = i ∧ Y = v) ∨ (X ≠ N + j ∧ X ≠ Y)) : PIn N rows i v far q k X j (a + 1) := by
  refine ⟨h.pi.cong fun x y hxy => ?_, h.kq⟩
  rcases hxy with hxy | ⟨rfl, hxy⟩
  · exact .inl hxy
  · refine .inr ⟨rfl, ?_, hxy.2⟩
    rcases (Pe.succ hj ha).1 hxy.1 with h1 | ⟨h1, h2⟩ | ⟨h1, h2⟩
    · exact h1
    · exfalso
      rcases hs with ⟨rfl, rfl⟩ | ⟨hs, _⟩
      · exact hxy.2.1 ⟨h1, h2⟩
      · exact hs h1
    · exfalso
      rcases hs with ⟨rfl, rfl⟩ | ⟨_, hs⟩
      · exact hxy.2.2 ⟨h1, h2⟩
      · exact hs h1
theorem PIn.pairs (hr : RowsIn N rows) {r : List Int} {Y w : Nat} (hj : rows[j]? = some r) (ha : r[a]? = some (Y : Int)) (hs : (X = N + j ∧ w = Y) ∨ (X = Y ∧ w = N + j)) {x y : Nat} (hxy : PrI N rows i v q k X j (a + 1) x y) : PrI N rows i v q k X j a x y ∨ (x = X ∧ y = w) := by
  have hY := hr j r a Y hj ha
  rcases hxy with hxy | ⟨rfl, hxy⟩
  · exact .inl (.inl hxy)
  · rcases (Pe.succ hj ha).1 hxy.1 with h1 | ⟨h1, h2⟩ | ⟨h1, h2⟩
    · exact .inl (.inr ⟨rfl, h1, hxy.2⟩)
    · right
      rcases hs with ⟨_, rfl⟩ | ⟨h3, _⟩
      · exact ⟨rfl, h2⟩
      · omega
    · right
      rcases hs with ⟨h3, _⟩ | ⟨_, rfl⟩
      · omega
      · exact ⟨rfl, h2⟩
theorem PIn.old (hr : RowsIn N rows) (h : PIn N rows i v far q k X j a) {r : List Int} {Y w : Nat} (hj : rows[j]? = some r) (ha : r[a]? = some (Y : Int)) (hs : (X = N + j ∧ w = Y) ∨ (X = Y ∧ w = N + j)) (hf : 0 ≤ far w) : PIn N rows i v far q k X j (a + 1) :=
  ⟨(h.pi.old rfl h.x0 hf).cong fun x y hxy => PIn.pairs hr hj ha hs hxy, h.kq⟩
theorem PIn.new (hr : RowsIn N rows) (h : PIn N rows i v far q k X j a) {r : List Int} {Y w : Nat} (hj : rows[j]? = some r) (ha : r[a]? = some (Y : Int)) (hs : (X = N + j ∧ w = Y) ∨ (X = Y ∧ w = N + j)) (hne : ¬ (j = i ∧ Y = v)) (hv : v < N) (hf : far w < 0) :
    PIn N rows i v (upd far w (far X + 1)) (q ++ [(w : Int)]) k X j (a + 1) := by
  have hY := hr j r a Y hj ha
  have hjl := (List.getElem?_eq_some_iff.1 hj).1
  have hx0 := h.x0
  have hXw : X ≠ w := fun e => by rw [e] at hx0; omega
  have hkq := (List.getElem?_eq_some_iff.1 h.kq).1
  have hE : Edp N rows rows.length 0 (N + j) Y := ⟨j, r, a, hj, rfl, ha, .inl hjl⟩
  have hA : AvP N rows i v X w := by
    rcases hs with ⟨rfl, rfl⟩ | ⟨rfl, rfl⟩
    · exact ⟨.inl hE, fun e => hne ⟨by omega, e.2⟩, fun e => by omega⟩
    · exact ⟨.inr hE, fun e => by omega, fun e => hne ⟨by omega, e.1⟩⟩
  have hM : w < N + rows.length := by omega
  have h1 := h.pi.new rfl hx0 hA hf hM
  refine ⟨?_, by rw [List.getElem?_append_left hkq]; exact h.kq⟩
  rw [upd_ne _ _ hXw]
  refine h1.cong fun x y hxy => PIn.pairs hr hj ha hs ?_
  rcases hxy with ⟨⟨e, he, hq⟩, hxy⟩ | hxy
  · exact .inl ⟨⟨e, he, by rwa [List.getElem?_append_left (by omega)] at hq⟩, hxy⟩
  · exact .inr hxy
theorem PIn.row (h : PIn N rows i v far q k X j a) {r : List Int} (hj : rows[j]? = some r) (ha : a = r.length) : PIn N rows i v far q k X (j + 1) 0 := by
  subst ha
  refine ⟨h.pi.cong fun x y hxy => ?_, h.kq⟩
  rcases hxy with hxy | ⟨rfl, hxy⟩
  · exact .inl hxy
  · exact .inr ⟨rfl, (Pe.row hj).2 hxy.1, hxy.2⟩
/-- Between two vertices of the queue. -/
def PO (N : Nat) (rows : List (List Int)) (i v : Nat) (far : Nat → Int) (q : List Int) (k : Nat) : Prop := ∃ D, PI N rows i v far q (PrK N rows i v q k) D ∧ ∀ (e : Nat) (x : Int), k ≤ e → q[e]? = some x → D ≤ far x.toNat
theorem PO.init (hi : i < rows.length) : PO N rows i v (upd (fun _ => -1) (N + i) 0) [((N + i : Nat) : Int)] 0 := by
  refine ⟨0, (PI.init hi).cong fun x y hxy => ?_, fun e x _ hx => ?_⟩
  · obtain ⟨⟨e, he, _⟩, _⟩ := hxy; omega
  · have := List.mem_of_getElem? hx
    simp only [List.mem_singleton] at this
    subst this
    rw [Int.toNat_natCast, upd_same]; omega
theorem PO.enter (h : PO N rows i v far q k) (hk : q[k]? = some (X : Int)) : PIn N rows i v far q k X 0 0 := by
  obtain ⟨D, h1, h2⟩ := h
  have := h2 k X (Nat.le_refl _) hk
  rw [Int.toNat_natCast] at this
  refine ⟨(h1.next this).cong fun x y hxy => ?_, hk⟩
  rcases hxy with hxy | ⟨_, hxy⟩
  · exact hxy
  · exact absurd hxy.1 Pe.zero
theorem PIn.leave (h : PIn N rows i v far q k X j a) (hj : j = rows.length) (ha : a = 0) : PO N rows i v far q (k + 1) := by
  subst hj ha
  refine ⟨far X, h.pi.cong fun x y hxy => ?_, fun e x he hx => ?_⟩
  · obtain ⟨⟨e, he, hq⟩, hA⟩ := hxy
    by_cases ek : e = k
    · subst ek
      rw [h.kq] at hq; injection hq with hq
      have : x = X := by omega
      subst this; exact .inr ⟨rfl, hA⟩
    · exact .inl ⟨⟨e, by omega, hq⟩, hA⟩
  · obtain ⟨hel, ee⟩ := List.getElem?_eq_some_iff.1 hx
    obtain ⟨hkl, ek⟩ := List.getElem?_eq_some_iff.1 h.kq
    have := (List.pairwise_iff_getElem.1 h.pi.bi.srt) k e hkl hel (by omega)
    rw [ek, ee, Int.toNat_natCast] at this
    exact this
theorem PO.fin (h : PO N rows i v far q k) (hk : q.length ≤ k) (hv : v < N) : PthO N rows i v (if far v < 0 then 0 else far v) := by
  obtain ⟨D, h1, _⟩ := h
  have hfull : ∀ x y, 0 ≤ far x → AvP N rows i v x y → PrK N rows i v q k x y := fun x y hx hy => by
    obtain ⟨e, he, eq⟩ := List.getElem_of_mem ((h1.bi.mem x).1 hx)
    exact ⟨⟨e, by omega, by rw [List.getElem?_eq_getElem he, eq]⟩, hy⟩
  have hs0 := h1.bi.s0
  refine ⟨by split <;> omega, fun n hw => ?_, fun h0 => ?_⟩
  · obtain ⟨a, b⟩ := h1.bi.le hfull hw (by omega)
    have hne : v ≠ N + i := by omega
    obtain ⟨p, _, p2, p3⟩ := h1.bi.up v a hne
    rw [if_neg (by omega)]
    omega
  · split at h0
    · omega
    · rename_i hf
      rw [if_neg hf]
      exact ⟨(far v).toNat, by omega, h1.bi.walk _ v (by omega)⟩

/-- The reference's girth: the least way beside an edge, and the edge. -/
theorem gir_eq {n m : Int} (hp : pchkS N rows = 0) (h : GirOut N rows n) (hm0 : 0 ≤ m)
    (hm1 : 0 < m → ∃ (i v : Nat) (d : Int), Edp N rows rows.length 0 (N + i) v ∧ PthO N rows i v d ∧ 0 < d ∧ m = d + 1)
    (hm2 : ∀ (i v : Nat), Edp N rows rows.length 0 (N + i) v → ∀ d, PthO N rows i v d → 0 < d → 0 < m ∧ m ≤ d + 1)
    (hm3 : ∀ (i v : Nat), Edp N rows rows.length 0 (N + i) v → ∃ d, PthO N rows i v d) : n = m := by
  obtain ⟨N', e1, _, _, _, hr, hris⟩ := pchkS_ok hp
  have : N' = N := by omega
  subst this
  obtain ⟨h1, h2, h3⟩ := h.spec hp
  have hg := nbL_gr hr hris
  have hlk : ∀ {x y : Nat}, (y : Int) ∈ nbL N' rows x ↔ Pe N' rows rows.length 0 x y := lnk_iff hr hris
  have key : ∀ {a b x y : Nat}, Av (nbL N' rows) a b x y ↔ Rm (Pe N' rows rows.length 0) a b x y := by
    intro a b x y
    unfold Av Rm
    rw [hlk]
  -- the program's length is that of a way beside an edge between a check and a variable
  have low : 0 < n → 0 < m ∧ m ≤ n := fun hn => by
    obtain ⟨d, a, c, hd, hb⟩ := h2 hn
    have side : ∀ a c, Edp N' rows rows.length 0 a c → Byp (nbL N' rows) d a c → 0 < m ∧ m ≤ n := fun a c he hb => by
      have hl := he.lt hr
      obtain ⟨i, rfl⟩ : ∃ i, a = N' + i := ⟨a - N', by omega⟩
      obtain ⟨d', hd'⟩ := hm3 i c he
      obtain ⟨k1, k2⟩ := hd'.2.1 d (hb.2.mono fun x y k => key.1 k)
      have := hm2 i c he d' hd' k1
      omega
    rcases hlk.1 hb.1 with he | he
    · exact side a c he hb
    · exact side c a he (hb.symm hg)
  have up : 0 < m → 0 < n ∧ n ≤ m := fun hm => by
    obtain ⟨i, w, d, he, hd, hd0, rfl⟩ := hm1 hm
    obtain ⟨k, rfl, hw⟩ := hd.2.2 hd0
    exact h3 k (N' + i) w ⟨hlk.2 (.inl he), hw.mono fun x y k => key.2 k⟩
  omega
end
end Go.Proofs.Ytpphaicbdeeacaa
