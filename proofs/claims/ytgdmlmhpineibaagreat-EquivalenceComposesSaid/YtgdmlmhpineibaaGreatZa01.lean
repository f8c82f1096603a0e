/- Plain mathematics: the product of polynomials, and its reduction from the highest power on. -/
/- Small helpers over any program: worlds that only grow, slices that read as lists of cells. -/
import Derived.Test.YtgdmlmhpineibaaGreatRows
import Derived.WalkKit
import Derived.WalkSpells
import Derived.Deep.RegionWith
import Derived.Deep.QuietTactic
import Derived.BigQuiet
import Derived.WalkLawsBesides
import Derived.Test.YtgdmlmhpineibaaGreatZa00
namespace Go.Proofs.YtgdmlmhpineibaaGreat
set_option linter.unusedVariables false
set_option linter.unusedSimpArgs false

/-- One coefficient changed. -/
def updI (c : Vc) (k : Nat) (v : Int) : Vc := fun j => if j = k then v else c j
section
variable {m : Nat} {low : Vc}
theorem ap_congr {n : Nat} {c d x : Vc} (h : ∀ j, j < n → c j = d j) : ap m low n c x = ap m low n d x := by
  induction n with
  | zero => rfl
  | succ n ih => simp only [ap]; rw [ih fun j hj => h j (by omega), h n (by omega)]
theorem ap_upd_ge {n k : Nat} {c x : Vc} {v : Int} (h : n ≤ k) : ap m low n (updI c k v) x = ap m low n c x :=
  ap_congr fun j hj => by unfold updI; rw [if_neg (by omega)]
theorem ap_upd {c x : Vc} {v : Int} {k : Nat} : ∀ n, k < n → ap m low n (updI c k v) x = fun j => ap m low n c x j + (v - c k) * sXn m low k x j
  | 0, h => by omega
  | n + 1, h => by
    funext j
    simp only [ap]
    rcases Nat.eq_or_lt_of_le (show k ≤ n by omega) with e | e
    · subst e
      rw [ap_upd_ge (Nat.le_refl _)]
      unfold updI
      rw [if_pos rfl]
      grind
    · rw [ap_upd n e]
      rw [show updI c k v n = c n by unfold updI; rw [if_neg (by omega)]]
      grind
theorem conv_step {p : Int} {n i j : Nat} {a b c : Vc} (hk : i + j < n)
    (h : EqM p (ap m low n c one_) (fun t => ap m low i a b t + a i * sXn m low i (ap m low j b one_) t)) :
    EqM p (ap m low n (updI c (i + j) ((c (i + j) + a i * b j) % p)) one_) (fun t => ap m low i a b t + a i * sXn m low i (ap m low (j + 1) b one_) t) := by
  intro t
  rw [ap_upd n hk]
  dsimp only
  have e1 : sXn m low i (ap m low (j + 1) b one_) t = sXn m low i (ap m low j b one_) t + b j * sXn m low (i + j) one_ t := by
    simp only [ap]
    rw [(sXn_lin i).add_smul, sXn_add]
  rw [e1]
  have e2 := h t
  dsimp only at e2
  generalize ap m low n c one_ t = A at *
  generalize ap m low i a b t = B at *
  generalize sXn m low i (ap m low j b one_) t = C at *
  generalize sXn m low (i + j) one_ t = D at *
  have e3 : ((c (i + j) + a i * b j) % p - c (i + j)) % p = (a i * b j) % p := by
    have : ((c (i + j) + a i * b j) % p - c (i + j)) % p = ((c (i + j) + a i * b j) - c (i + j)) % p := eqm_sub (Int.emod_emod_of_dvd _ (Int.dvd_refl _)) rfl
    rw [this]; congr 1; omega
  refine (eqm_add e2 (eqm_mul e3 rfl)).trans ?_
  congr 1
  grind
theorem conv_zero (p : Int) (n : Nat) (a b : Vc) : EqM p (ap m low n (fun _ => 0) one_) (fun t => ap m low 0 a b t + a 0 * sXn m low 0 (ap m low 0 b one_) t) := by
  intro t
  have : ∀ n, ap m low n (fun _ => 0) one_ = fun _ => 0 := by
    intro n
    induction n with
    | zero => rfl
    | succ n ih => simp only [ap]; rw [ih]; funext j; simp
  rw [this n]; simp [ap, sXn]
theorem conv_row {p : Int} {n i : Nat} {a b c : Vc} (hb : Sup m b)
    (h : EqM p (ap m low n c one_) (fun t => ap m low i a b t + a i * sXn m low i (ap m low m b one_) t)) :
    EqM p (ap m low n c one_) (fun t => ap m low (i + 1) a b t + a (i + 1) * sXn m low (i + 1) (ap m low 0 b one_) t) := by
  intro t
  rw [h t]
  dsimp only
  have e : sXn m low (i + 1) (ap m low 0 b one_) t = 0 := by
    simp only [ap]; rw [(sXn_lin (i + 1)).zero]
  rw [e, hb.ap_one]
  simp only [ap]
  congr 1
  omega
theorem sXn_top (hm : 1 ≤ m) : sXn m low m one_ = fun j => - ap m low m low one_ j := by
  rw [ap_one m low (Nat.le_refl _)]
  obtain ⟨k, rfl⟩ : ∃ k, m = k + 1 := ⟨m - 1, by omega⟩
  rw [show sXn (k + 1) low (k + 1) one_ = sX (k + 1) low (sXn (k + 1) low k one_) from rfl, sXn_one k (by omega)]
  funext j
  show (if j < k + 1 then (if j = 0 then 0 else if j - 1 = k then (1 : Int) else 0) - (if k + 1 - 1 = k then (1 : Int) else 0) * low j else 0) = - (if j < k + 1 then low j else 0)
  by_cases hj : j < k + 1
  · have e : (if j = 0 then (0 : Int) else if j - 1 = k then 1 else 0) = 0 := by
      split
      · rfl
      · rw [if_neg (by omega)]
    rw [if_pos hj, if_pos hj, e, show (if k + 1 - 1 = k then (1 : Int) else 0) = 1 by rw [if_pos (by omega)]]
    omega
  · rw [if_neg hj, if_neg hj]; rfl
/-- One step of the reduction at i. -/
theorem red_step {p : Int} {i j : Nat} {c c0 : Vc} {T : Vc} (hi : m ≤ i) (hj : j < m)
    (h : EqM p (fun t => ap m low i c one_ t) (fun t => ap m low i c0 one_ t - c0 i * sXn m low (i - m) (ap m low j low one_) t)) (hc : c i = c0 i) :
    EqM p (fun t => ap m low i (updI c (i - m + j) ((c (i - m + j) + (p - c i) * low j) % p)) one_ t) (fun t => ap m low i c0 one_ t - c0 i * sXn m low (i - m) (ap m low (j + 1) low one_) t) := by
  intro t
  show ap m low i (updI c (i - m + j) ((c (i - m + j) + (p - c i) * low j) % p)) one_ t % p = _
  rw [ap_upd i (by omega)]
  have e1 : sXn m low (i - m) (ap m low (j + 1) low one_) t = sXn m low (i - m) (ap m low j low one_) t + low j * sXn m low (i - m + j) one_ t := by
    simp only [ap]
    rw [(sXn_lin (i - m)).add_smul, sXn_add]
  have e2 := h t
  dsimp only at e2 ⊢
  rw [e1]
  have e3 : ((c (i - m + j) + (p - c i) * low j) % p - c (i - m + j)) % p = (- (c0 i * low j)) % p := by
    have : ((c (i - m + j) + (p - c i) * low j) % p - c (i - m + j)) % p = ((c (i - m + j) + (p - c i) * low j) - c (i - m + j)) % p := eqm_sub (Int.emod_emod_of_dvd _ (Int.dvd_refl _)) rfl
    rw [this, hc]
    refine eqm_iff.2 ⟨low j, by grind⟩
  refine (eqm_add e2 (eqm_mul e3 rfl)).trans ?_
  congr 1
  generalize ap m low i c0 one_ t = A at *
  generalize sXn m low (i - m) (ap m low j low one_) t = B at *
  generalize sXn m low (i - m + j) one_ t = C at *
  grind
/-- What the reduction at i leaves. -/
theorem red_row {p : Int} {i : Nat} {c c0 T : Vc} (hm : 1 ≤ m) (hi : m ≤ i) (h0 : EqM p (ap m low (i + 1) c0 one_) T)
    (h : EqM p (fun t => ap m low i c one_ t) (fun t => ap m low i c0 one_ t - c0 i * sXn m low (i - m) (ap m low m low one_) t)) : EqM p (ap m low i c one_) T := by
  intro t
  rw [← h0 t]
  have e := h t
  dsimp only at e
  rw [e]
  congr 1
  simp only [ap]
  have e2 : sXn m low i one_ t = - sXn m low (i - m) (ap m low m low one_) t := by
    rw [show i = (i - m) + m by omega, sXn_add, sXn_top hm]
    have e3 := sXn_lin (m := m) (low := low) (i - m) (-1) 0 (ap m low m low one_) (fun _ => 0)
    have e4 := congrFun e3 t
    simp only [Int.zero_mul, Int.add_zero, Int.neg_mul, Int.one_mul] at e4
    rw [show i - m + m - m = i - m by omega]
    exact e4
  rw [e2]
  grind
theorem red_start (p : Int) {i : Nat} (c : Vc) : EqM p (fun t => ap m low i c one_ t) (fun t => ap m low i c one_ t - c i * sXn m low (i - m) (ap m low 0 low one_) t) := by
  intro t
  have e : sXn m low (i - m) (ap m low 0 low one_) t = 0 := by simp only [ap]; rw [(sXn_lin (i - m)).zero]
  dsimp only
  rw [e]; simp
theorem red_end {p m : Nat} {low : Vc} (hp : 1 ≤ p) {x y : Nat} {c : Vc} (hc : ∀ j, j < m → 0 ≤ c j ∧ c j < p) (h : EqM p (ap m low m c one_) (ap m low m (dig p m x) (dig p m y))) :
    cod p m c = ((kmul p m low x y : Nat) : Int) := by
  unfold kmul rep
  rw [mulV_comm (dig_sup p m x) (dig_sup p m y)]
  unfold mulV
  rw [Int.toNat_of_nonneg (cod_rng (fun j => ⟨Int.emod_nonneg _ (by omega), Int.emod_lt_of_pos _ (by omega)⟩) m).1]
  refine cod_congr m fun j hj => ?_
  have h1 := h j
  rw [ap_one m c (Nat.le_refl _)] at h1
  dsimp only at h1
  rw [if_pos hj] at h1
  rw [← h1]
  exact (Int.emod_eq_of_lt (hc j hj).1 (hc j hj).2).symm
end
end Go.Proofs.YtgdmlmhpineibaaGreat
namespace Go.Proofs.YtgdmlmhpineibaaGreat
set_option linter.unusedVariables false
set_option linter.unusedSimpArgs false
open Go.RowKit

theorem hid_ {p : Prop} (h : p) : Hid p := h
theorem ret_int {k : IntKind} {a b : Int} (h : a = b) : Ending.returned (.int k a) = .returned (.int k b) := by rw [h]
theorem ret_bool {a b : Bool} (h : a = b) : Ending.returned (.bool a) = .returned (.bool b) := by rw [h]
/-- The world has only grown. -/
def Ex (w w' : World) : Prop := Below w.heap.size w w'
theorem Ex.refl (w : World) : Ex w w := Below.refl _ _
theorem Ex.trans {a b c : World} (h : Ex a b) (k : Ex b c) : Ex a c := Below.trans h (Below.mono k h.size)
theorem Ex.drew {a b : World} (h : Ex a b) : Ex a b.drew := Below.drew h
theorem Ex.drewN {a b : World} (h : Ex a b) (n : Nat) : Ex a (b.drewN n) := below_drewN h n
theorem Ex.alloc {a b : World} (h : Ex a b) (o : Obj) : Ex a (b.alloc o) := Below.alloc h h.size o
theorem Ex.setCell {a b : World} (h : Ex a b) {p : Addr} (hp : a.heap.size ≤ p.block) (u : Value) : Ex a (b.setCell p u) := Below.setCell h hp u
theorem Ex.cell {w w' : World} (h : Ex w w') {p : Addr} {u : Value} (hc : w.cell? p = some u) : w'.cell? p = some u :=
  (Below.cell h (World.block_lt_of_cell? w _ hc)).trans hc
/-- A slice that reads as these cells, `size` of them for each element. -/
def Sl (w : World) (v : Value) (n size : Nat) (xs : List Value) : Prop :=
  xs.length = n * size ∧ ∃ a cap, v = .slice a n cap ∧ n ≤ cap ∧ cap ≤ maxLen ∧
    (0 < n → ∃ b o, a = some ⟨b, o, none⟩ ∧ ∀ j u, xs[j]? = some u → w.cell? ⟨b, o + j, none⟩ = some u)
theorem Sl.ex {w w' : World} {v : Value} {n size : Nat} {xs : List Value} (h : Sl w v n size xs) (hx : Ex w w') : Sl w' v n size xs := by
  obtain ⟨h1, a, cap, h2, h3, h4, h5⟩ := h
  refine ⟨h1, a, cap, h2, h3, h4, fun hn => ?_⟩
  obtain ⟨b, o, h6, h7⟩ := h5 hn
  exact ⟨b, o, h6, fun j u hu => hx.cell (h7 j u hu)⟩
theorem Sl.nil (w : World) (size : Nat) : Sl w (.slice none 0 0) 0 size [] := ⟨by simp, none, 0, rfl, Nat.le_refl _, by unfold maxLen; omega, fun h => absurd h (by omega)⟩
theorem Sl.own {w : World} {base : Nat} {e : TypeId} {size : Nat} {v : Value} {n : Nat} {xs : List Value} (h : w.ownsRow base e size v n xs) : Sl w v n size xs := by
  refine ⟨h.1, ?_⟩
  rcases h.2 with ⟨h2, h3⟩ | ⟨g, cap, cur, hv, hb, hg, h1, h2, h3, h4⟩
  · exact ⟨none, 0, by rw [h2, h3], by omega, by unfold maxLen; omega, fun h => by omega⟩
  · refine ⟨some ⟨g, 0, none⟩, cap, hv, h1, h2, fun _ => ⟨g, 0, rfl, fun j u hu => ?_⟩⟩
    rw [Nat.zero_add, cell_of_row w g j cur e (0, 0) hg]
    rw [← h4, List.getElem?_take] at hu
    split at hu
    · simpa using hu
    · cases hu
theorem ownsRow_setCell_ne {w : World} {base : Nat} {e : TypeId} {size : Nat} {v : Value} {n : Nat} {xs : List Value} (h : w.ownsRow base e size v n xs) {a : Addr} (ha : v.ownBlock ≠ some a.block) (u : Value) : (w.setCell a u).ownsRow base e size v n xs := by
  refine h.kept (row := some a.block) ⟨rfl, rfl, rfl, by simp [World.setCell], fun k _ hk => Below.heap_setCell _ _ _ _ (fun e => hk (by rw [e]))⟩ ?_
  exact .inr ha
theorem ownsRow_ex {w w' : World} {base : Nat} {e : TypeId} {size : Nat} {v : Value} {n : Nat} {xs : List Value} (h : w.ownsRow base e size v n xs) (hx : Ex w w') : w'.ownsRow base e size v n xs := by
  refine h.kept (row := none) ⟨hx.os, hx.tape, hx.output, hx.size, fun k hk _ => hx.block k hk⟩ ?_
  cases v.ownBlock <;> simp
/-- Behind an append by 'wpList_append_own'. -/
theorem Ex.grown {a w w' : World} {base : Nat} {e : TypeId} {size : Nat} {v : Value} {n : Nat} {xs : List Value} (h : Ex a w) (hown : w.ownsRow base e size v n xs) (hb : a.heap.size ≤ base) (hg : w.grownBy w' v.ownBlock) : Ex a w' :=
  Below.grown h hg h.size (fun k hk => Nat.le_trans hb (hown.lt k hk).1)
theorem cell_set_off {w : World} {B i j : Nat} {u : Value} (h : i ≠ j) : (w.setCell ⟨B, i, none⟩ u).cell? ⟨B, j, none⟩ = w.cell? ⟨B, j, none⟩ :=
  World.cell?_setCell_other _ _ _ _ (by intro e; injection e; omega)
theorem w64 {x : Int} (h1 : -9223372036854775808 ≤ x) (h2 : x ≤ 9223372036854775807) : wrap64 x = x := IntWalk.wrap64_in _ ⟨h1, h2⟩
/-- The ints of a slice as cells. -/
def ints (l : List Int) : List Value := l.map (Value.int .i64)
theorem ints_length (l : List Int) : (ints l).length = l.length := List.length_map _
theorem ints_get {l : List Int} {j : Nat} {x : Int} (h : l[j]? = some x) : (ints l)[j]? = some (.int .i64 x) := by simp [ints, h]
/-- A slice of ints that reads as a list. -/
def ISl (w : World) (v : Value) (l : List Int) : Prop := Sl w v l.length 1 (ints l)
theorem ISl.ex {w w' : World} {v : Value} {l : List Int} (h : ISl w v l) (hx : Ex w w') : ISl w' v l := Sl.ex h hx
/-- What the walk wants of such a slice. -/
theorem ISl.open {w : World} {v : Value} {l : List Int} (h : ISl w v l) : ∃ a cap, v = .slice a l.length cap ∧ l.length ≤ cap ∧ cap ≤ maxLen ∧
    (0 < l.length → ∃ b o, a = some ⟨b, o, none⟩ ∧ ∀ j x, l[j]? = some x → w.cell? ⟨b, o + j, none⟩ = some (.int .i64 x)) := by
  obtain ⟨h1, a, cap, h2, h3, h4, h5⟩ := h
  refine ⟨a, cap, h2, h3, h4, fun hn => ?_⟩
  obtain ⟨b, o, h6, h7⟩ := h5 hn
  exact ⟨b, o, h6, fun j x hx => h7 j _ (ints_get hx)⟩
theorem quiet_draw {P : Program} {f : FuncId} {args : Array Value} {w : World} {n : Nat} {v : Value}
    (h : Calls P f args (w.drewN n) fun e w' => e = .returned v ∧ ∃ k, w' = (w.drewN n).drewN k) : Calls P f args (w.drewN n) fun e w'' => e = .returned v ∧ ∃ m, w'' = w.drewN m :=
  h.mono fun _ _ ⟨he, k, hm⟩ => ⟨he, n + k, by rw [hm, World.drewN_drewN]⟩
/-- A slice literal of three ints, behind one block. -/
theorem isl_made (w : World) (l : List Int) (t : TypeId) (hl : l.length ≤ 1000) : ISl (w.alloc (.cells (ints l).toArray t)) (.slice (some ⟨w.heap.size, 0, none⟩) l.length l.length) l := by
  refine ⟨by rw [ints_length]; omega, some ⟨w.heap.size, 0, none⟩, l.length, rfl, Nat.le_refl _, by unfold maxLen; omega, fun _ => ⟨_, _, rfl, fun j u h => ?_⟩⟩
  rw [Nat.zero_add]
  simpa using h
end Go.Proofs.YtgdmlmhpineibaaGreat
