/- Walk of peel.Peel. -/
import Derived.Test.YtpphaicbdeeacaaPeelL
import Derived.Test.YtpphaicbdeeacaaPeelN
namespace Go.Proofs.Ytpphaicbdeeacaa
set_option linter.unusedVariables false
set_option linter.unusedSimpArgs false
open Go.RowKit

section
variable (p m : Nat) (ml : List Int) (N : Nat) (H : List (List Int))

/-- The entry with which row r gives 0. -/
def pval (r : List Int) (x : Nat → Int) (i : Nat) : Int := (kneg p m (kmul p m (lw ml) (kdot p m ml r (il N x) 0) (kinv p m ml (kin (p ^ m) (r.getD i 0)))) : Nat)
/-- The peeling of a word x with the set f of unknown positions. -/
inductive PeelW : (Nat → Int) → (Nat → Bool) → (Nat → Int) → (Nat → Bool) → Prop
  | done (x : Nat → Int) (f : Nat → Bool) : aloneI f (H.map supp) < 0 → PeelW x f x f
  | step (x : Nat → Int) (f : Nat → Bool) (x' : Nat → Int) (f' : Nat → Bool) (i j : Nat) (r : List Int) : aloneI f (H.map supp) = i → H[j]? = some r → alone1 f (supp r) = some (i : Int) →
      (∀ (k : Nat) (s : List Int), k < j → H[k]? = some s → alone1 f (supp s) = none) → PeelW (upd x i (pval p m ml N r x i)) (upd f i false) x' f' → PeelW x f x' f'
/-- Does some row without an unknown position fail? -/
def failB (f : Nat → Bool) (x : Nat → Int) : Bool := H.any fun r => (inn f (supp r)).isEmpty && (kdot p m ml r (il N x) 0 != 0)
end

def x0F (w er : List Int) (j : Nat) : Int := if (j : Int) ∈ er then 0 else w.getD j 0
def x0K (w er : List Int) (k : Nat) (j : Nat) : Int := if (j : Int) ∈ er.take k then 0 else w.getD j 0
theorem x0K_succ {w er : List Int} {k X : Nat} (h : er[k]? = some (X : Int)) : x0K w er (k + 1) = upd (x0K w er k) X 0 := by
  funext j
  unfold upd x0K
  rw [List.take_add_one, h]
  by_cases e : j = X
  · subst e; simp
  · have : ¬ ((j : Int) = (X : Int)) := by omega
    simp [e, this]

/-- What Peel says behind its checks. -/
def PeelB (p m : Nat) (ml : List Int) (N : Nat) (H : List (List Int)) (w er X L : List Int) (e : Int) : Prop :=
  (w.length ≠ N ∧ X = [] ∧ L = [] ∧ e = 4) ∨ (w.length = N ∧ entS (p ^ m) w ≠ 0 ∧ X = [] ∧ L = [] ∧ e = 2) ∨ (w.length = N ∧ entS (p ^ m) w = 0 ∧ risB N er = false ∧ X = [] ∧ L = [] ∧ e = 6) ∨
  (w.length = N ∧ entS (p ^ m) w = 0 ∧ risB N er = true ∧ ∃ x f, PeelW p m ml N H (x0F w er) (mkm er) x f ∧
    ((failB p m ml N H f x = true ∧ X = [] ∧ L = [] ∧ e = 12) ∨ (failB p m ml N H f x = false ∧ X = il N x ∧ L = lft N f ∧ e = 0)))
def PeelS (p m : Int) (ml : List Int) (cols : Int) (H : List (List Int)) (w er X L : List Int) (e : Int) : Prop :=
  ∃ V gr ge, GrS p m ml cols H V gr ge ∧ ((ge ≠ 0 ∧ X = [] ∧ L = [] ∧ e = ge) ∨
    (ge = 0 ∧ ∃ pn mn N : Nat, p = pn ∧ m = mn ∧ cols = N ∧ FldB p m ml ∧ mchkS (pn ^ mn) N H = 0 ∧ 1 ≤ N ∧ N ≤ 64 ∧ gr = H.map supp ∧ PeelB pn mn ml N H w er X L e))

theorem GrS.ok {p m : Int} {ml : List Int} {cols : Int} {H : List (List Int)} {V : Int} {gr : List (List Int)} (h : GrS p m ml cols H V gr 0) :
    ∃ pn mn N : Nat, p = pn ∧ m = mn ∧ cols = N ∧ V = N ∧ FldB p m ml ∧ mchkS (pn ^ mn) N H = 0 ∧ 1 ≤ N ∧ N ≤ 64 ∧ gr = H.map supp := by
  obtain ⟨ec, hec, ⟨h0, _, _, h1⟩ | ⟨_, _, _, _, h1⟩ | ⟨h0, h1, h2, h3, h4, _⟩⟩ := h
  · exact absurd h1.symm h0
  · cases h1
  · subst h0
    obtain ⟨pn, mn, a, b, c, d⟩ := hec.ok
    obtain ⟨N, hN⟩ : ∃ N : Nat, cols = N := ⟨cols.toNat, by omega⟩
    subst hN
    exact ⟨pn, mn, N, a, b, rfl, h3, c, d, by omega, by omega, h4⟩
theorem GrS.rng {p m : Int} {ml : List Int} {cols : Int} {H : List (List Int)} {V : Int} {gr : List (List Int)} {e : Int} (h : GrS p m ml cols H V gr e) : 0 ≤ e ∧ e ≤ 4 := by
  obtain ⟨ec, hec, ⟨h0, _, _, h1⟩ | ⟨_, _, _, _, h1⟩ | ⟨h0, h1, h2, h3, h4, h5⟩⟩ := h
  · have := hec.rng; omega
  · omega
  · omega
theorem entS_any (q : Nat) (l : List Int) : ((List.range l.length).any fun k => !isB q (l.getD k 0)) = (entS q l != 0) := by
  have h1 : ((List.range l.length).any fun k => !isB q (l.getD k 0)) = !(l.all fun x => isB q x) := by
    rw [Bool.eq_iff_iff]
    simp only [List.any_eq_true, List.mem_range, Bool.not_eq_true', List.all_eq_false, List.getD_eq_getElem?_getD]
    constructor
    · rintro ⟨i, hi, h⟩
      rw [List.getElem?_eq_getElem hi] at h
      exact ⟨l[i], List.getElem_mem hi, by simpa using h⟩
    · rintro ⟨r, hr, h⟩
      obtain ⟨i, hi, e⟩ := List.getElem_of_mem hr
      exact ⟨i, hi, by rw [List.getElem?_eq_getElem hi, e]; simpa using h⟩
  rw [h1]
  unfold entS
  cases h : (l.all fun x => isB q x) <;> simp
structure PSt (wB wr : World) (ob oc g nb N : Nat) (x : Nat → Int) (f : Nat → Bool) : Prop where
  out : OwnC wr wB.heap.size 3 ob N oc (iv x)
  inn : Own wr wB.heap.size 4 g N (bv f)
  nc : wr.cell? ⟨nb, 0, none⟩ = some (.slice (some ⟨g, 0, none⟩) N N)
  n1 : ob ≠ g
  n2 : nb ≠ ob
  n3 : nb ≠ g
  ex : Ex wB wr
theorem PSt.later {wB wr w' : World} {ob oc g nb N : Nat} {x : Nat → Int} {f : Nat → Bool} (h : PSt wB wr ob oc g nb N x f) (hx : Ex wr w') : PSt wB w' ob oc g nb N x f :=
  ⟨h.out.ex hx, h.inn.ex hx, hx.cell h.nc, h.n1, h.n2, h.n3, h.ex.trans hx⟩
theorem PSt.setOut {wB wr : World} {ob oc g nb N : Nat} {x : Nat → Int} {f : Nat → Bool} (h : PSt wB wr ob oc g nb N x f) (j : Nat) (y : Int) : PSt wB (wr.setCell ⟨ob, j, none⟩ (.int .i64 y)) ob oc g nb N (upd x j y) f :=
  ⟨by rw [← iv_upd]; exact h.out.set j _, h.inn.other (a := ⟨ob, j, none⟩) (fun e => h.n1 e.symm) _, by rw [World.cell?_setCell_other _ _ _ _ (by intro e; injection e with e1; exact h.n2 e1.symm)]; exact h.nc, h.n1, h.n2, h.n3, h.out.exSet (Nat.le_refl _) h.ex j _⟩
theorem PSt.setIn {wB wr : World} {ob oc g nb N : Nat} {x : Nat → Int} {f : Nat → Bool} (h : PSt wB wr ob oc g nb N x f) (j : Nat) (b : Bool) : PSt wB (wr.setCell ⟨g, j, none⟩ (.bool b)) ob oc g nb N x (upd f j b) :=
  ⟨h.out.other (a := ⟨g, j, none⟩) h.n1 _, by rw [← bv_upd]; exact h.inn.set j _, by rw [World.cell?_setCell_other _ _ _ _ (by intro e; injection e with e1; exact h.n3 e1.symm)]; exact h.nc, h.n1, h.n2, h.n3, h.inn.exSet (Nat.le_refl _) h.ex j _⟩
theorem cell_setCell_ne {w : World} {a b : Nat} {i j : Nat} {u : Value} (h : a ≠ b) : (w.setCell ⟨a, i, none⟩ u).cell? ⟨b, j, none⟩ = w.cell? ⟨b, j, none⟩ :=
  World.cell?_setCell_other _ _ _ _ (by intro e; injection e with e1; exact h e1)

theorem PSt.setOther {wB wr : World} {ob oc g nb N : Nat} {x : Nat → Int} {f : Nat → Bool} (h : PSt wB wr ob oc g nb N x f) {ib : Nat} (h1 : ob ≠ ib) (h2 : g ≠ ib) (h3 : nb ≠ ib) (hb : wB.heap.size ≤ ib) (j : Nat) (u : Value) : PSt wB (wr.setCell ⟨ib, j, none⟩ u) ob oc g nb N x f :=
  ⟨h.out.other (a := ⟨ib, j, none⟩) h1 _, h.inn.other (a := ⟨ib, j, none⟩) h2 _, by rw [cell_setCell_ne (fun e => h3 e.symm)]; exact h.nc, h.n1, h.n2, h.n3, h.ex.setCell (p := ⟨ib, j, none⟩) hb u⟩
theorem alloc1_cell (w : World) (u : Value) (t : TypeId) {n : Nat} (h : w.heap.size = n) : (w.alloc (.cells #[u] t)).cell? ⟨n, 0, none⟩ = some u := by subst h; simp
theorem alloc1_frz (w : World) (u : Value) (t : TypeId) {n : Nat} (h : w.heap.size = n) : (w.alloc (.cells #[u] t)).frozen? ⟨n, 0, none⟩ = false := by subst h; simp

theorem range_any (l : List Int) (P : Int → Bool) : ((List.range l.length).any fun k => P (l.getD k 0)) = l.any P := by
  rw [Bool.eq_iff_iff]
  simp only [List.any_eq_true, List.mem_range, List.getD_eq_getElem?_getD]
  constructor
  · rintro ⟨i, hi, h⟩
    rw [List.getElem?_eq_getElem hi] at h
    exact ⟨l[i], List.getElem_mem hi, h⟩
  · rintro ⟨y, hy, h⟩
    obtain ⟨i, hi, e⟩ := List.getElem_of_mem hy
    exact ⟨i, hi, by rw [List.getElem?_eq_getElem hi, e]; exact h⟩
theorem lft_nodup (N : Nat) (f : Nat → Bool) : (lft N f).Nodup := by
  unfold lft List.Nodup
  rw [List.pairwise_map]
  refine List.Pairwise.imp ?_ (List.nodup_range.filter f)
  intro a b h e
  omega
theorem supp_in {r : List Int} {N : Nat} (hr : r.length = N) (k : Nat) (x : Int) (h : (supp r)[k]? = some x) : 0 ≤ x ∧ x < N := by
  have h1 := List.mem_of_getElem? h
  unfold supp suppK lft at h1
  obtain ⟨a, ha, rfl⟩ := List.mem_map.1 h1
  have := List.mem_range.1 (List.mem_filter.1 ha).1
  omega
theorem supp_mem {r : List Int} {i : Nat} (h : (i : Int) ∈ supp r) : i < r.length ∧ r.getD i 0 ≠ 0 := by
  unfold supp suppK lft at h
  obtain ⟨a, ha, e⟩ := List.mem_map.1 h
  have e2 : a = i := by omega
  subst e2
  obtain ⟨h1, h2⟩ := List.mem_filter.1 ha
  exact ⟨List.mem_range.1 h1, of_decide_eq_true h2⟩
theorem alone1_A {f : Nat → Bool} {l : List Int} {X : Int} (h : alone1 f l = some X) : l.contains X = true ∧ (l.any fun y => y != X && f y.toNat) = false := by
  have h1 := alone1_some h
  have h2 : X ∈ inn f l := by rw [h1]; simp
  refine ⟨List.contains_iff_mem.2 (List.mem_filter.1 h2).1, ?_⟩
  rw [List.any_eq_false]
  intro y hy hc
  rw [Bool.and_eq_true] at hc
  have : y ∈ inn f l := List.mem_filter.2 ⟨hy, hc.2⟩
  rw [h1, List.mem_singleton] at this
  simp [this] at hc
theorem eq_single_of_nodup {X : Int} : ∀ {l : List Int}, l.Nodup → X ∈ l → (∀ y ∈ l, y = X) → l = [X]
  | [], _, h, _ => by cases h
  | [a], _, _, h => by rw [h a (List.mem_singleton_self a)]
  | a :: b :: l, hd, _, h => by
    exfalso
    have h1 := h a (List.mem_cons_self ..)
    have h2 := h b (List.mem_cons_of_mem _ (List.mem_cons_self ..))
    have := (List.nodup_cons.1 hd).1
    exact this (by rw [h1, ← h2]; exact List.mem_cons_self ..)
theorem alone1_B {f : Nat → Bool} {l : List Int} {X : Int} (hd : l.Nodup) (h : alone1 f l = none) (hf : f X.toNat = true) (hc : l.contains X = true) : (l.any fun y => y != X && f y.toNat) = true := by
  rw [← Bool.not_eq_false]
  intro hn
  rw [List.any_eq_false] at hn
  have h1 : inn f l = [X] := by
    refine eq_single_of_nodup (hd.filter _) (List.mem_filter.2 ⟨List.contains_iff_mem.1 hc, hf⟩) fun y hy => ?_
    obtain ⟨h2, h3⟩ := List.mem_filter.1 hy
    have := hn y h2
    rw [Bool.and_eq_true] at this
    by_cases e : y = X
    · exact e
    · exact absurd ⟨by simpa using e, h3⟩ this
  unfold alone1 at h
  rw [h1] at h
  cases h
theorem findSome_first {f : Nat → Bool} {X : Int} : ∀ {rows : List (List Int)}, rows.findSome? (alone1 f) = some X → ∃ (j : Nat) (r : List Int), rows[j]? = some r ∧ alone1 f r = some X ∧ ∀ (k : Nat) (s : List Int), k < j → rows[k]? = some s → alone1 f s = none
  | [], h => by cases h
  | r :: rows, h => by
    rw [List.findSome?_cons] at h
    cases e : alone1 f r with
    | some y => rw [e] at h; injection h with h; subst h; exact ⟨0, r, rfl, e, fun k s hk => by omega⟩
    | none =>
      rw [e] at h
      obtain ⟨j, s, h1, h2, h3⟩ := findSome_first h
      refine ⟨j + 1, s, by simpa using h1, h2, fun k t hk ht => ?_⟩
      rcases k with _ | k
      · simp at ht; subst ht; exact e
      · exact h3 k t (by omega) (by simpa using ht)

theorem ret_vvi {k : IntKind} {u v : Value} {c d : Int} (h' : c = d) : Ending.returned (.tuple #[u, v, .int k c]) = .returned (.tuple #[u, v, .int k d]) := by rw [h']

set_option maxRecDepth 100000 in
set_option maxHeartbeats 4000000 in
theorem Peel_anyO (p m : Int) (ml : List Int) (mv : Value) (w : World) (hmv : ISl w mv ml) (cols : Int) (H : List (List Int)) (v : Value) (hv : MSl w v H) (wd er : List Int) (wv ev : Value) (hwv : ISl w wv wd) (hev : ISl w ev er) :
    Calls Try.prog 30 #[.agg #[.int .i64 p, .int .i64 m, mv], .agg #[.int .i64 cols, v], wv, ev] w fun r w' =>
      ∃ X L xv lv e, r = .returned (.tuple #[xv, lv, .int .i64 e]) ∧ PeelS p m ml cols H wd er X L e ∧ ISl w' xv X ∧ ISl w' lv L ∧ Ex w w' ∧ (∀ b, xv.ownBlock = some b → w.heap.size ≤ b) ∧ ∀ b, lv.ownBlock = some b → w.heap.size ≤ b := by
  have HGC := hid_ (fun w' h1 h2 => Graph_any p m ml mv w' h1 cols H v h2)
  have HMV := hid_ hmv
  have HV := hid_ hv
  have HWV := hid_ hwv
  have HEV := hid_ hev
  obtain ⟨za, zc, rfl, z1, z2, z3⟩ := hv.open
  have Z3 := hid_ z3
  unfold maxLen at z2
  obtain ⟨wa, wc, rfl, w1, w2, w3⟩ := hwv.open
  obtain ⟨ea, ec, rfl, e1, e2, e3⟩ := hev.open
  have W3 := hid_ w3
  have E3 := hid_ e3
  unfold maxLen at w2 e2
  obtain ⟨xb, hxb⟩ : ∃ xb, w.heap.size = xb := ⟨_, rfl⟩
  have HXB := hid_ hxb
  clear hmv hv z3 hwv hev w3 e3
  go_enter Try.func30, Try.ntmps30
  go_wp2_with fail
  try simp only [hxb]
  have hd1 : (w.alloc (.cells #[.int .i64 p, .int .i64 m, mv] 24)).heap.size = xb + 1 := by simp [hxb]
  obtain ⟨g0, g1, g2, e0, gsz⟩ := box_facts w p m mv
  clear gsz
  rw [hxb] at g0 g1 g2
  generalize w.alloc (.cells #[.int .i64 p, .int .i64 m, mv] 24) = wA at *
  have a0 : (wA.alloc (.cells #[.int .i64 cols, .slice za H.length zc] 27)).cell? ⟨xb + 1, 0, none⟩ = some (.int .i64 cols) := by rw [← hd1]; simp
  have a1 : (wA.alloc (.cells #[.int .i64 cols, .slice za H.length zc] 27)).cell? ⟨xb + 1, 1, none⟩ = some (.slice za H.length zc) := by rw [← hd1]; simp
  have eA : Ex wA (wA.alloc (.cells #[.int .i64 cols, .slice za H.length zc] 27)) := (Ex.refl _).alloc _
  generalize wA.alloc (.cells #[.int .i64 cols, .slice za H.length zc] 27) = wB at *
  have b0 := eA.cell g0
  have b1 := eA.cell g1
  have b2 := eA.cell g2
  have eB := e0.trans eA
  clear g0 g1 g2 e0 eA hd1 hxb wA
  refine (HGC.out wB (HMV.out.ex eB) (HV.out.ex eB)).mono ?_
  rintro r w4 ⟨V, cv, gr, ge, rfl, hgr, hcv, hx4⟩
  obtain ⟨ca, cc, rfl, k1, k2, k3⟩ := hcv.open
  obtain ⟨ge1, ge2⟩ := hgr.rng
  have HGR := hid_ hgr
  have HCV := hid_ hcv
  have c0 := hx4.cell b0
  have c1 := hx4.cell b1
  have c2 := hx4.cell b2
  have c3 := hx4.cell a0
  have c4 := hx4.cell a1
  have EX4 := hid_ (eB.trans hx4)
  clear b0 b1 b2 a0 a1 hx4 eB hgr hcv k3 HGC
  have e5 : Ex w4 (w4.alloc (.cells #[.int .i64 V, .slice ca gr.length cc] 31)) := (Ex.refl _).alloc _
  have t0 : (w4.alloc (.cells #[.int .i64 V, .slice ca gr.length cc] 31)).cell? ⟨w4.heap.size, 0, none⟩ = some (.int .i64 V) := by simp
  have t1 : (w4.alloc (.cells #[.int .i64 V, .slice ca gr.length cc] 31)).cell? ⟨w4.heap.size, 1, none⟩ = some (.slice ca gr.length cc) := by simp
  by_cases h0 : ge = 0
  · subst h0
    obtain ⟨pn, mn, N, rfl, rfl, rfl, rfl, hfl, hmk, hN1, hN2, hgr2⟩ := HGR.out.ok
    have HPS := hid_ (show ∀ X L e, PeelB pn mn ml N H wd er X L e → PeelS pn mn ml N H wd er X L e from fun X L e h => ⟨_, _, _, HGR.out, .inr ⟨rfl, pn, mn, N, rfl, rfl, rfl, hfl, hmk, hN1, hN2, hgr2, h⟩⟩)
    have HNW := hid_ (fun w' h => New_any pn mn ml mv w' h)
    have HFL := hid_ hfl
    have HMK := hid_ hmk
    have HGR2 := hid_ hgr2
    have EX5 := hid_ e5
    have f0 := e5.cell c0
    have f1 := e5.cell c1
    have f2 := e5.cell c2
    clear hfl hmk hgr2 HGR ge1 ge2 k1 k2
    go_wp2_with fail
    generalize w4.alloc (.cells #[.int .i64 N, .slice ca gr.length cc] 31) = w5 at *
    obtain ⟨tb, htb⟩ : ∃ tb, w4.heap.size = tb := ⟨_, rfl⟩
    rw [htb] at t0 t1
    try simp only [htb]
    clear htb e5
    refine (HNW.out w5 (HMV.out.ex (EX4.out.trans EX5.out))).mono ?_
    rintro r w6 ⟨hno, hx6⟩
    obtain ⟨x0, gb, rfl, hg, x1, x2⟩ : ∃ x0 gb : Nat, r = .returned (.tuple #[.pointer (some ⟨gb, 0, none⟩), .int .i64 0]) ∧ GFat w6 gb pn mn ml x0 ∧ 1 ≤ x0 ∧ x0 < pn ^ mn := by
      rcases hno with ⟨pn', mn', x0, gb, e1, e2, e3, e4, e5, e6⟩ | ⟨e1, _⟩
      · have h1 : pn' = pn := by omega
        have h2 : mn' = mn := by omega
        subst h1 h2
        exact ⟨x0, gb, e3, e4, e5, e6⟩
      · exact absurd HFL.out e1
    have s3 := hx6.cell (EX5.out.cell c3)
    have s4 := hx6.cell (EX5.out.cell c4)
    have s5 := hx6.cell t0
    have s6 := hx6.cell t1
    have EX6 := hid_ ((EX4.out.trans EX5.out).trans hx6)
    have HG := hid_ hg
    have HCV6 := hid_ (HCV.out.ex (EX5.out.trans hx6))
    have e7 : Ex w6 (w6.alloc (.cells #[.pointer (some ⟨gb, 0, none⟩)] 83)) := (Ex.refl _).alloc _
    have g0 : (w6.alloc (.cells #[.pointer (some ⟨gb, 0, none⟩)] 83)).cell? ⟨w6.heap.size, 0, none⟩ = some (.pointer (some ⟨gb, 0, none⟩)) := by simp
    have s3 := e7.cell s3
    have s4 := e7.cell s4
    have s5 := e7.cell s5
    have s6 := e7.cell s6
    have EX7 := hid_ (EX6.out.trans e7)
    have HG7 := hid_ (HG.out.ex e7)
    have HCV7 := hid_ (HCV6.out.ex e7)
    clear hno hg hx6 f0 f1 f2 c0 c1 c2 c3 c4 t0 t1 HCV HCV6 HG EX6 EX5 EX4 e7 HNW
    by_cases hwl : wd.length = N
    · have hb : ((wd.length : Int) != (N : Int)) = false := by simp; omega
      have HCF := hid_ (fun w' gp (h1 : ISl w' (.slice wa wd.length wc) wd) (h2 : w'.cell? ⟨gp, 0, none⟩ = some (.pointer (some ⟨gb, 0, none⟩))) (h3 : GFat w' gb pn mn ml x0) => by
        have := ContainsFunc_is w' (.pointer (some ⟨gp, 0, none⟩)) (.slice wa wd.length wc) wd.length (ints wd) h1 (fun k => !isB (pn ^ mn) (wd.getD k 0)) (fun q i u hu => by
          obtain ⟨y, hy, rfl⟩ : ∃ y, wd[i]? = some y ∧ Value.int .i64 y = u := by
            simp only [ints, List.getElem?_map] at hu
            obtain ⟨y, hy, e⟩ := Option.map_eq_some_iff.1 hu
            exact ⟨y, hy, e⟩
          rw [show wd.getD i 0 = y by rw [List.getD_eq_getElem?_getD, hy]; rfl]
          exact Peel1_any _ gp gb pn mn x0 ml (by rw [cell?_drewN]; exact h2) (h3.drewN q) y)
        rw [entS_any] at this
        exact this)
      have HSET := hid_ (fun w' h => set_any w' er (.slice ea er.length ec) N h)
      have HWL := hid_ hwl
      clear hwl
      go_wp2_with fail
      generalize w6.alloc (.cells #[.pointer (some ⟨gb, 0, none⟩)] 83) = w7 at *
      obtain ⟨gp, hgp⟩ : ∃ gp, w6.heap.size = gp := ⟨_, rfl⟩
      rw [hgp] at g0
      try simp only [hgp]
      clear hgp
      have HC7 := hid_ (HCF.out w7 gp (HWV.out.ex EX7.out) g0 HG7.out)
      clear HCF
      by_cases hen : entS (pn ^ mn) wd = 0
      · have hen' : (entS (pn ^ mn) wd != 0) = false := by simp [hen]
        rw [hen'] at HC7
        have HEN := hid_ hen
        clear hen hen'
        refine HC7.out.mono ?_
        rintro e w8 ⟨rfl, q8, rfl⟩
        have g0 := g0
        have EX8 := hid_ (EX7.out.drewN q8)
        have q3 := ((Ex.refl w7).drewN q8).cell s3
        have q4 := ((Ex.refl w7).drewN q8).cell s4
        have q5 := ((Ex.refl w7).drewN q8).cell s5
        have q6 := ((Ex.refl w7).drewN q8).cell s6
        have q0 := ((Ex.refl w7).drewN q8).cell g0
        have HG8 := hid_ (HG7.out.drewN q8)
        have HCV8 := hid_ (HCV7.out.ex ((Ex.refl w7).drewN q8))
        clear s3 s4 s5 s6 g0 EX7 HG7 HCV7 HC7
        generalize w7.drewN q8 = w8 at *
        by_cases hri : risB N er = true
        · have HRI := hid_ hri
          rw [hri] at HSET
          clear hri
          go_wp2_with fail
          refine (HSET.out _ (HEV.out.ex EX8.out)).mono ?_
          rintro e w9 ⟨rfl, rfl⟩
          go_wp2_with fail
          have Q3 := hid_ q3
          have Q4 := hid_ q4
          have Q5 := hid_ q5
          have Q6 := hid_ q6
          have Q0 := hid_ q0
          have HCL := hid_ (Clone_any w8 wd _ (HWV.out.ex EX8.out) (by have := HWL.out; omega) (by have := HWL.out; omega))
          refine HCL.out.mono ?_
          rintro e w9 ⟨ob, oc, rfl, hob, hx9⟩
          have HMA := hid_ (mask_any w9 N (.slice ca gr.length cc) (.slice ea er.length ec) er hN2 (HEV.out.ex (EX8.out.trans hx9)) (risB_rng HRI.out))
          rw [HWL.out] at hob
          simp only [HWL.out]
          have HOB := hid_ hob
          have HX9 := hid_ hx9
          have q3 := hx9.cell q3
          have q4 := hx9.cell q4
          have q5 := hx9.cell q5
          have q6 := hx9.cell q6
          have q0 := hx9.cell q0
          clear hob hx9 HCL
          go_wp2_with fail
          refine HMA.out.mono ?_
          rintro e w10 ⟨g, rfl, hog, hx10⟩
          go_wp2_with fail
          have HP0 : Hid (PSt w8 (w10.alloc (.cells #[.slice (some ⟨g, 0, none⟩) N N] 73)) ob oc g w10.heap.size N (x0K wd er 0) (mkm er)) := by
            have ha : Ex w10 (w10.alloc (.cells #[.slice (some ⟨g, 0, none⟩) N N] 73)) := (Ex.refl _).alloc _
            have l1 := HOB.out.lt.2
            have l2 := hog.lt
            have l3 := HX9.out.size
            have l4 := hx10.size
            refine hid_ ⟨((HOB.out.ex hx10).ex ha).icongr fun j hj => by simp [x0K], (hog.mono l3).ex ha, by simp, by omega, by omega, by omega, (HX9.out.trans hx10).trans ha⟩
          have QB := hid_ (show w8.heap.size ≤ w10.heap.size from Nat.le_trans HX9.out.size hx10.size)
          generalize w10.alloc (.cells #[.slice (some ⟨g, 0, none⟩) N N] 73) = w11 at *
          obtain ⟨nb, hnb⟩ : ∃ nb, w10.heap.size = nb := ⟨_, rfl⟩
          rw [hnb] at HP0 QB
          try simp only [hnb]
          clear hnb hog hx10 HOB HX9 HMA
          clear q3 q4 q5 q6 q0
          go_loopw [66] (fun k' wr => ∃ k : Nat, k ≤ er.length ∧ k' = .int .i64 k ∧ Hid (PSt w8 wr ob oc g nb N (x0K wd er k) (mkm er))) (fun k' _ => er.length - (intOf k').toNat)
          case atStart => exact ⟨0, by omega, rfl, HP0⟩
          case round =>
            clear HP0
            obtain ⟨k, hk, rfl, hst⟩ := hrel
            have hcaps := hst.out.out.caps
            obtain ⟨k1, k2⟩ := hcaps
            unfold maxLen at k2
            by_cases hkl : k < er.length
            · obtain ⟨x, hx⟩ : ∃ x, er[k]? = some x := ⟨_, List.getElem?_eq_getElem hkl⟩
              obtain ⟨y1, y2⟩ := risB_rng HRI.out k x hx
              obtain ⟨X, rfl⟩ : ∃ X : Nat, x = X := ⟨x.toNat, by omega⟩
              have hXN : X < N := by omega
              obtain ⟨eb, eo, rfl, hec⟩ := E3.out (by omega)
              have c1 := (EX8.out.trans hst.out.ex).cell (hec k X hx)
              have c2 := hst.out.out.cell hXN
              have c3 := hst.out.out.frz X
              have HS := hid_ (hst.out.setOut X 0)
              rw [← x0K_succ hx] at HS
              clear hec hx y1 y2 hst
              go_wp2_with fail
              go_roundw
              case rel => exact ⟨k + 1, by omega, by go_num, HS⟩
              case measure => simp [intOf]; omega
            · obtain rfl : k = er.length := by omega
              have HST := hid_ (show PSt w8 wr ob oc g nb N (x0F wd er) (mkm er) from by
                have := hst.out
                rwa [show x0K wd er er.length = x0F wd er from by funext j; unfold x0K x0F; rw [List.take_length]] at this)
              clear hst k1 k2 HSET
              obtain ⟨_, _, hHl, hHr⟩ := mchk_shape HMK.out
              have HLEN := hid_ (show ∀ (j : Nat) (r : List Int), H[j]? = some r → r.length = N ∧ entS (pn ^ mn) r = 0 from fun j r h => by
                have := hHr r (List.mem_of_getElem? h); exact ⟨by omega, this.2⟩)
              have HGRJ := hid_ (show ∀ (j : Nat) (l : List Int), gr[j]? = some l → ∃ r, H[j]? = some r ∧ l = supp r from fun j l h => by
                rw [HGR2.out, List.getElem?_map] at h
                obtain ⟨r, h1, h2⟩ := Option.map_eq_some_iff.1 h
                exact ⟨r, h1, h2.symm⟩)
              have HRI2 := hid_ (show RowsIn N gr from fun j l k x h1 h2 => by
                obtain ⟨r, h3, rfl⟩ := HGRJ.out j l h1
                exact supp_in (HLEN.out j r h3).1 k x h2)
              have hgl : gr.length = H.length := by rw [HGR2.out, List.length_map]
              have hgl256 : gr.length ≤ 256 := by omega
              have HA := hid_ (fun w' f iv_ (h0 : Ex w8 w') h2 => alone_any w' N N f gr (.slice ca gr.length cc) iv_ (HCV8.out.ex h0) h2 HRI2.out)
              have HGL := hid_ hgl
              clear hHr hHl hgl
              have q5 := HST.out.ex.cell Q5.out
              have q6 := HST.out.ex.cell Q6.out
              have qn := HST.out.nc
              go_wp2_with fail
              refine (HA.out _ (mkm er) _ HST.out.ex HST.out.inn.sl).mono ?_
              rintro e w12 ⟨rfl, hx12⟩
              have HST2 := hid_ (HST.out.later hx12)
              have hio : ob < w12.heap.size := HST2.out.out.lt.2
              have hig : g < w12.heap.size := HST2.out.inn.lt.2
              have hin : nb < w12.heap.size := World.block_lt_of_cell? _ _ HST2.out.nc
              have hib8 : w8.heap.size ≤ w12.heap.size := HST2.out.ex.size
              have e13 : Ex w12 (w12.alloc (.cells #[.int .i64 (aloneI (mkm er) gr)] 3)) := (Ex.refl _).alloc _
              have ic : (w12.alloc (.cells #[.int .i64 (aloneI (mkm er) gr)] 3)).cell? ⟨w12.heap.size, 0, none⟩ = some (.int .i64 (aloneI (mkm er) gr)) := by simp
              have ifz : (w12.alloc (.cells #[.int .i64 (aloneI (mkm er) gr)] 3)).frozen? ⟨w12.heap.size, 0, none⟩ = false := by simp
              have HST3 := hid_ (HST2.out.later e13)
              clear HST HST2 hx12 q5 q6 qn e13
              go_wp2_with fail
              generalize w12.alloc (.cells #[.int .i64 (aloneI (mkm er) gr)] 3) = w13 at *
              obtain ⟨ib0, hib0⟩ : ∃ ib, w12.heap.size = ib := ⟨_, rfl⟩
              rw [hib0] at hio hig hin hib8 ic ifz
              try simp only [hib0]
              clear hib0
              have HPW0 := hid_ (show ∀ x' f', PeelW pn mn ml N H (x0F wd er) (mkm er) x' f' → PeelW pn mn ml N H (x0F wd er) (mkm er) x' f' from fun _ _ h => h)
              go_loopg [18] N (fun gk i' wr => ∃ (x : Nat → Int) (f : Nat → Bool) (ib : Nat), (lft N f).length ≤ gk ∧ i' = .pointer (some ⟨ib, 0, none⟩) ∧ wr.cell? ⟨ib, 0, none⟩ = some (.int .i64 (aloneI f gr)) ∧ wr.frozen? ⟨ib, 0, none⟩ = false ∧ ob ≠ ib ∧ g ≠ ib ∧ nb ≠ ib ∧ w8.heap.size ≤ ib ∧ Hid (PSt w8 wr ob oc g nb N x f) ∧
                Hid (∀ x' f', PeelW pn mn ml N H x f x' f' → PeelW pn mn ml N H (x0F wd er) (mkm er) x' f'))
              case atStart => exact ⟨_, _, ib0, lft_len _ _, rfl, ic, ifz, by omega, by omega, by omega, hib8, HST3, HPW0⟩
              case round =>
                clear ic ifz hio hig hin hib8 HST3 HPW0
                obtain ⟨x, f, ib, hcnt, rfl, ic, ifz, n1, n2, n3, n4, hst, hpw⟩ := hrel
                by_cases hge : 0 ≤ aloneI f gr
                · obtain ⟨hlt, hfx⟩ := aloneI_mem HRI2.out hge
                  have hsome := aloneI_some hge
                  obtain ⟨X, hX⟩ : ∃ X : Nat, aloneI f gr = X := ⟨(aloneI f gr).toNat, by omega⟩
                  rw [hX] at hlt hfx hsome ic
                  rw [Int.toNat_natCast] at hfx
                  unfold aloneS at hsome
                  obtain ⟨j0, l0, hl0, ha0, hall0⟩ := findSome_first hsome
                  obtain ⟨r0, hr0, rfl⟩ := HGRJ.out j0 l0 hl0
                  have hj0 : j0 < gr.length := (List.getElem?_eq_some_iff.1 hl0).1
                  have hXN : X < N := by omega
                  have HPW := hid_ (fun x' f' h => hpw.out x' f' (PeelW.step x f x' f' X j0 r0 (by rw [← HGR2.out]; exact hX) hr0 ha0 (fun k s hk hs => hall0 k (supp s) hk (by rw [HGR2.out, List.getElem?_map, hs]; rfl)) h))
                  have HCNT := hid_ (lft_upd hfx N hXN)
                  have HFX := hid_ hfx
                  have HR0 := hid_ hr0
                  have HA0 := hid_ ha0
                  have HALL0 := hid_ hall0
                  have q5 := hst.out.ex.cell Q5.out
                  have q6 := hst.out.ex.cell Q6.out
                  have ifzH := hid_ ifz
                  have icH := hid_ ic
                  clear hlt hfx hsome hX hr0 ha0 hall0 hpw hge hl0 ifz
                  go_wp2_with fail
                  clear q5 q6 ic
                  go_loopg [85] (gr.length) (fun gk j' wr2 => ∃ j n : Nat, j ≤ j0 ∧ gr.length - j ≤ gk ∧ j' = .int .i64 j ∧ wr2 = wr.drewN n)
                  case atStart => exact ⟨0, 0, by omega, by omega, rfl, rfl⟩
                  case round =>
                    obtain ⟨j, n, hj, hgj, rfl, rfl⟩ := hrel
                    have hjl : j < gr.length := by omega
                    have hst2 := hst.out.later ((Ex.refl wr).drewN n)
                    have ic := ((Ex.refl wr).drewN n).cell icH.out
                    have ifz := ((Ex.refl wr).drewN n).frz icH.out ifzH.out
                    have HW := hid_ ((Ex.refl wr).drewN n)
                    obtain ⟨W, hW⟩ : ∃ W, wr.drewN n = W := ⟨_, rfl⟩
                    rw [hW] at hst2 ic ifz HW
                    have HWE := hid_ hW
                    rw [hW]
                    obtain ⟨l, hl⟩ : ∃ l, gr[j]? = some l := ⟨_, List.getElem?_eq_getElem hjl⟩
                    obtain ⟨r, hr, rfl⟩ := HGRJ.out j l hl
                    obtain ⟨_, _, e1, _, _, h3⟩ := (HCV8.out.ex hst2.ex).open
                    injection e1 with e1 e2 e3
                    subst e1 e3
                    obtain ⟨cb, co, rfl, hcc⟩ := h3 (by omega)
                    obtain ⟨u, c1, hu⟩ := hcc j _ hl
                    obtain ⟨ua, uc, rfl, u1, u2, _⟩ := hu.open
                    unfold maxLen at u2
                    have hjlt : (j : Int) < (gr.length : Int) := by omega
                    have HCT := hid_ (Contains_any W (supp r) _ X hu)
                    have HCO := hid_ (ContainsFunc_oth W (.pointer (some ⟨ib, 0, none⟩)) (.pointer (some ⟨nb, 0, none⟩)) _ _ _ hu (fun k => (supp r).getD k 0 != (X : Int) && f ((supp r).getD k 0).toNat) (fun q i u hu => by
                      obtain ⟨y, hy, rfl⟩ : ∃ y, (supp r)[i]? = some y ∧ Value.int .i64 y = u := by
                        simp only [ints, List.getElem?_map] at hu
                        obtain ⟨y, hy, e⟩ := Option.map_eq_some_iff.1 hu
                        exact ⟨y, hy, e⟩
                      rw [show (supp r).getD i 0 = y by rw [List.getD_eq_getElem?_getD, hy]; rfl]
                      obtain ⟨y1, y2⟩ := supp_in (HLEN.out j r hr).1 i y hy
                      obtain ⟨Y, rfl⟩ : ∃ Y : Nat, y = Y := ⟨y.toNat, by omega⟩
                      rw [Int.toNat_natCast]
                      exact Peel2_any _ ib nb N Y X _ f (by rw [cell?_drewN]; exact ic) (by rw [cell?_drewN]; exact hst2.nc) ((hst2.inn.drewN q).sl) (by omega)))
                    rw [range_any (supp r) (fun y => y != (X : Int) && f y.toNat)] at HCO
                    have HST5 := hid_ hst2
                    by_cases hjj : j < j0
                    · have hnone := HALL0.out j (supp r) hjj hl
                      have hnd : (supp r).Nodup := lft_nodup _ _
                      have HB := hid_ (fun hc => alone1_B (X := (X : Int)) hnd hnone (by rw [Int.toNat_natCast]; exact HFX.out) hc)
                      clear hst2 hl hr h3 hcc hu hW hnone hnd
                      cases hct : (supp r).contains (X : Int) with
                      | false =>
                        rw [hct] at HCT
                        clear hct HB
                        go_wp2_with (go_at_call 65; refine HCT.out.mono ?_; rintro e w' ⟨rfl, rfl⟩)
                        go_roundg (gr.length - (j + 1))
                        case rel => exact ⟨j + 1, n, by omega, by omega, by go_num, HWE.out.symm⟩
                        case measure => omega
                      | true =>
                        rw [hct] at HCT
                        have hb2 := HB.out hct
                        rw [hb2] at HCO
                        clear hct HB hb2
                        go_wp2_with (first | (go_at_call 65; refine HCT.out.mono ?_; rintro e w' ⟨rfl, rfl⟩) | (go_at_call 61; refine HCO.out.mono ?_; rintro e w' ⟨rfl, q2, rfl⟩))
                        go_roundg (gr.length - (j + 1))
                        case rel => exact ⟨j + 1, n + q2, by omega, by omega, by go_num, by rw [← HWE.out, World.drewN_drewN]⟩
                        case measure => omega
                    · obtain rfl : j0 = j := by omega
                      rw [HR0.out] at hr
                      injection hr with hr
                      subst hr
                      obtain ⟨ha1, ha2⟩ := alone1_A HA0.out
                      rw [ha1] at HCT
                      rw [ha2] at HCO
                      obtain ⟨hrl, hre⟩ := HLEN.out j0 _ HR0.out
                      have hyz : r0.getD X 0 ≠ 0 := (supp_mem (List.contains_iff_mem.1 ha1)).2
                      obtain ⟨y, hy⟩ : ∃ y, r0[X]? = some y := ⟨_, List.getElem?_eq_getElem (by omega)⟩
                      have hyg : r0.getD X 0 = y := by rw [List.getD_eq_getElem?_getD, hy]; rfl
                      have hyb : isB (pn ^ mn) y = true := by
                        unfold entS at hre
                        split at hre
                        · rename_i h; exact List.all_eq_true.1 h y (List.mem_of_getElem? hy)
                        · cases hre
                      have hkz : kin (pn ^ mn) y ≠ 0 := by
                        have h1 : 0 ≤ y ∧ y < ((pn ^ mn : Nat) : Int) := by unfold isB at hyb; exact of_decide_eq_true hyb
                        unfold kin; rw [if_pos h1]; rw [hyg] at hyz; omega
                      have hp1 : 1 ≤ pn := by have := HG8.out.sh.p2; omega
                      have hq0 : 0 < pn ^ mn := Nat.pow_pos hp1
                      have HPV := hid_ (show pval pn mn ml N r0 x X = ((kneg pn mn (kmul pn mn (lw ml) (kdot pn mn ml r0 (il N x) 0) (kinv pn mn ml (kin (pn ^ mn) y))) : Nat) : Int) from by unfold pval; rw [hyg])
                      obtain ⟨zb, zo, rfl, hzc⟩ := Z3.out (by have := HGL.out; omega)
                      obtain ⟨uz, d1, huz⟩ := hzc j0 r0 HR0.out
                      have EXR := hid_ (EX8.out.trans hst2.ex)
                      have d2 := EXR.out.cell d1
                      have huz2 := huz.ex EXR.out
                      obtain ⟨va, vc, rfl, v1, v2, v3⟩ := huz2.open
                      obtain ⟨vb, vo, rfl, v4⟩ := v3 (by omega)
                      have d3 := v4 X y hy
                      have hjz : j0 < H.length := by have := HGL.out; omega
                      unfold maxLen at v2
                      have q3 := hst2.ex.cell Q3.out
                      have q4 := hst2.ex.cell Q4.out
                      have q0 := hst2.ex.cell Q0.out
                      have HGW := hid_ (HG8.out.ex hst2.ex)
                      have HDOT := hid_ (fun w' (h0 : Ex W w') n' => Dot_any (w'.drewN n') (HGW.out.ex (h0.drewN n')) r0 (il N x) _ _ (huz2.ex (h0.drewN n')) (hst2.out.isl.ex (h0.drewN n')))
                      obtain ⟨kd, hkd⟩ : ∃ kd, kdot pn mn ml r0 (il N x) 0 = kd := ⟨_, rfl⟩
                      have hkdq : kd < pn ^ mn := by rw [← hkd]; exact kdot_lt hp1 _ _ _ hq0
                      rw [hkd] at HDOT HPV
                      obtain ⟨km, hkm⟩ : ∃ km, kmul pn mn (lw ml) kd (kinv pn mn ml (kin (pn ^ mn) y)) = km := ⟨_, rfl⟩
                      have hkmq : km < pn ^ mn := by rw [← hkm]; exact kmul_lt hp1 _ _
                      have hdv : divR pn mn ml (kin (pn ^ mn) (kd : Int)) (kin (pn ^ mn) y) = .tuple #[.int .i64 (km : Int), .int .i64 0] := by
                        unfold divR; rw [if_neg hkz, kin_of hkdq, hkm]
                      have HDIV : Hid (∀ w', Ex W w' → ∀ n', Calls Try.prog 67 #[.pointer (some ⟨gb, 0, none⟩), .int .i64 (kd : Int), .int .i64 y] (w'.drewN n') (Qt (w'.drewN n') (.tuple #[.int .i64 (km : Int), .int .i64 0]))) := by
                        rw [← hdv]
                        exact hid_ (fun w' h0 n' => Div_any (w'.drewN n') (HGW.out.ex (h0.drewN n')) x1 x2 (kd : Int) y)
                      rw [hkm] at HPV
                      have hnv : kneg pn mn (kin (pn ^ mn) (km : Int)) = kneg pn mn km := by rw [kin_of hkmq]
                      have HNEG : Hid (∀ w', Ex w8 w' → Calls Try.prog 69 #[.pointer (some ⟨gb, 0, none⟩), .int .i64 (km : Int)] w' (Qt w' (.int .i64 (kneg pn mn km : Nat)))) := by
                        rw [← hnv]
                        exact hid_ (fun w' h0 => Neg_any w' (HG8.out.ex h0) (km : Int))
                      obtain ⟨kn, hkn⟩ : ∃ kn, kneg pn mn km = kn := ⟨_, rfl⟩
                      rw [hkn] at HNEG HPV
                      clear hnv hdv hkn hkm hkd hkdq hkmq hkz hyb hyg hyz hre ha1 ha2 hy v3 v4 huz huz2 d1 hzc hl h3 hcc hu hW
                      have hXr : X < r0.length := by omega
                      have i1 : (0 : Int) ≤ (j0 : Int) := by omega
                      have i2 : (j0 : Int) < (H.length : Int) := by omega
                      have i3 : (0 : Int) ≤ (X : Int) := by omega
                      have i4 : (X : Int) < (r0.length : Int) := by omega
                      clear hrl
                      go_wp2_with (first | (go_at_call 65; refine HCT.out.mono ?_; rintro e w' ⟨rfl, rfl⟩) | (go_at_call 61; refine HCO.out.mono ?_; rintro e w' ⟨rfl, q2, rfl⟩))
                      have eW : Ex W (W.drewN q2) := (Ex.refl W).drewN q2
                      have HD1 := hid_ (HDOT.out _ eW)
                      have HD2 := hid_ (HDIV.out _ eW)
                      have ic := eW.cell ic
                      have ifz : (W.drewN q2).frozen? ⟨ib, 0, none⟩ = false := ifz
                      have q3 := eW.cell q3
                      have q4 := eW.cell q4
                      have q0 := eW.cell q0
                      have d2 := eW.cell d2
                      have d3 := eW.cell d3
                      have HST6 := hid_ (HST5.out.later eW)
                      clear HST5 HDOT HDIV eW HCO HCT c1
                      generalize W.drewN q2 = W2 at *
                      go_quiet ((first | (go_at_call 68; exact quiet_draw (HD1.out _)) | (go_at_call 67; exact quiet_draw (HD2.out _))))
                      go_wp2_with fail
                      have eW3 : Ex W2 (W2.drewN nq) := (Ex.refl W2).drewN nq
                      have ic := eW3.cell ic
                      have ifz : (W2.drewN nq).frozen? ⟨ib, 0, none⟩ = false := ifz
                      have q0 := eW3.cell q0
                      have HST7 := hid_ (HST6.out.later eW3)
                      clear HST6 HD1 HD2 eW3 q3 q4 d2 d3
                      generalize W2.drewN nq = W3 at *
                      have hgo : ob ≠ gp := by
                        have h1 := World.block_lt_of_cell? _ _ Q0.out
                        have h2 := HST7.out.out.lt.1
                        dsimp only at h1
                        omega
                      have cX := HST7.out.out.cell hXN
                      have fX := HST7.out.out.frz X
                      have k1 := HST7.out.out.caps.1
                      have k2 := HST7.out.out.caps.2
                      unfold maxLen at k2
                      have i5 : (X : Int) < (N : Int) := by omega
                      go_region_held3 (fun w' => w'.cell? ⟨ib, 0, none⟩ = some (.int .i64 X) ∧ w'.cell? ⟨gp, 0, none⟩ = some (.pointer (some ⟨gb, 0, none⟩)))
                        (first | exact ⟨ic, q0⟩ | go_keep | (rw [cell_setCell_ne n1, cell_setCell_ne hgo]; exact ⟨ic, q0⟩))
                        ((go_at_call 69; refine (HNEG.out _ HST7.out.ex.drew).mono ?_; rintro e w5 ⟨rfl, n5, rfl⟩))
                      have eW4 : Ex W3 (W3.drewN (1 + n5)) := (Ex.refl W3).drewN _
                      have HST8 := hid_ ((HST7.out.later eW4).setOut X (kn : Int))
                      have ic4 : ((W3.drewN (1 + n5)).setCell ⟨ob, X, none⟩ (.int .i64 (kn : Int))).cell? ⟨ib, 0, none⟩ = some (.int .i64 X) := by rw [cell_setCell_ne n1]; exact eW4.cell ic
                      clear eW4 ic ifz q0 hgo cX fX k1 k2 HST7 HNEG
                      generalize (W3.drewN (1 + n5)).setCell ⟨ob, X, none⟩ (.int .i64 (kn : Int)) = W4 at *
                      have HST9 := hid_ (HST8.out.setIn X false)
                      have cg := HST8.out.inn.cell hXN
                      have fg := HST8.out.inn.frz X
                      have qn := HST8.out.nc
                      have ic5 : (W4.setCell ⟨g, X, none⟩ (.bool false)).cell? ⟨ib, 0, none⟩ = some (.int .i64 X) := by rw [cell_setCell_ne n2]; exact ic4
                      have e6 : Ex (W4.setCell ⟨g, X, none⟩ (.bool false)) ((W4.setCell ⟨g, X, none⟩ (.bool false)).alloc (.cells #[.int .i64 X] 3)) := (Ex.refl _).alloc _
                      have q5 := e6.cell (HST9.out.ex.cell Q5.out)
                      have q6 := e6.cell (HST9.out.ex.cell Q6.out)
                      have qn6 := e6.cell HST9.out.nc
                      have HST10 := hid_ (HST9.out.later e6)
                      have hsz5 : (W4.setCell ⟨g, X, none⟩ (.bool false)).heap.size = W4.heap.size := by simp [World.setCell]
                      have ic6 : ((W4.setCell ⟨g, X, none⟩ (.bool false)).alloc (.cells #[.int .i64 X] 3)).cell? ⟨W4.heap.size, 0, none⟩ = some (.int .i64 X) := alloc1_cell _ _ _ hsz5
                      have if6 : ((W4.setCell ⟨g, X, none⟩ (.bool false)).alloc (.cells #[.int .i64 X] 3)).frozen? ⟨W4.heap.size, 0, none⟩ = false := alloc1_frz _ _ _ hsz5
                      have HIC6 := hid_ ic6
                      have HIF6 := hid_ if6
                      have l1 : ob < W4.heap.size := HST8.out.out.lt.2
                      have l2 : g < W4.heap.size := HST8.out.inn.lt.2
                      have l3 : nb < W4.heap.size := World.block_lt_of_cell? _ _ HST8.out.nc
                      have l4 : w8.heap.size ≤ W4.heap.size := HST8.out.ex.size
                      clear ic6 if6 e6 hsz5
                      go_wp2_with fail
                      refine (HA.out _ (upd f X false) _ HST10.out.ex HST10.out.inn.sl).mono ?_
                      rintro e w14 ⟨rfl, hx14⟩
                      have ic14 := hx14.cell HIC6.out
                      have if14 := hx14.frz HIC6.out HIF6.out
                      have HST11 := hid_ (HST10.out.later hx14)
                      clear HST8 HST9 HST10 HIC6 HIF6 hx14 cg fg qn ic5 q5 q6 qn6 ic4
                      obtain ⟨ib2, hib2⟩ : ∃ ib2, W4.heap.size = ib2 := ⟨_, rfl⟩
                      rw [hib2] at ic14 if14 l1 l2 l3 l4
                      try simp only [hib2]
                      clear hib2
                      have HQ1 := hid_ (show (w14.setCell ⟨ib2, 0, none⟩ (.int .i64 (aloneI (upd f X false) gr))).cell? ⟨ib2, 0, none⟩ = some (.int .i64 (aloneI (upd f X false) gr)) from World.cell?_setCell_same (h := ic14) ..)
                      have HQ2 := hid_ (show (w14.setCell ⟨ib2, 0, none⟩ (.int .i64 (aloneI (upd f X false) gr))).frozen? ⟨ib2, 0, none⟩ = false from by rw [World.frozen?_setCell]; exact if14)
                      have HST12 := hid_ (HST11.out.setOther (ib := ib2) (by omega) (by omega) (by omega) l4 0 (.int .i64 (aloneI (upd f X false) gr)))
                      have hc2 := HCNT.out
                      rw [← HPV.out] at HST12
                      go_wp2_with fail
                      go_roundg ((lft N (upd f X false)).length)
                      case rel => exact ⟨_, _, ib2, Nat.le_refl _, rfl, HQ1.out, HQ2.out, by omega, by omega, by omega, l4, HST12, HPW⟩
                      case measure => omega
                · have hlt0 : aloneI f gr < 0 := by omega
                  have HDN := hid_ (hpw.out x f (PeelW.done x f (by rw [← HGR2.out]; exact hlt0)))
                  have q6 := hst.out.ex.cell Q6.out
                  clear hge hpw
                  have HDOT := hid_ (fun w' v1 v2 (l : List Int) (h0 : Ex w8 w') h1 h2 => Dot_any w' (HG8.out.ex h0) l (il N x) v1 v2 h1 h2)
                  have HLF := hid_ (fun w' v h => left_anyO w' N v f hN2 h)
                  have HFE := hid_ (show failB pn mn ml N H f x = H.any fun r => (inn f (supp r)).isEmpty && (kdot pn mn ml r (il N x) 0 != 0) from rfl)
                  have EXW := hid_ (EX8.out.trans hst.out.ex)
                  have HST4 := hid_ hst.out
                  have EXR : Ex wr wr := Ex.refl _
                  obtain ⟨oc1, oc2⟩ := hst.out.out.caps
                  unfold maxLen at oc2
                  clear hst ifz
                  go_wp2_with fail
                  clear q6 ic
                  obtain ⟨wo, hwo⟩ : ∃ wo : World, wo = wr := ⟨_, rfl⟩
                  rw [← hwo] at HST4 EXW EXR
                  subst hwo
                  go_loopw [134] (fun j' wr => ∃ j : Nat, j ≤ gr.length ∧ j' = .int .i64 j ∧ Hid (∀ (k : Nat) (r : List Int), k < j → H[k]? = some r → ((inn f (supp r)).isEmpty && (kdot pn mn ml r (il N x) 0 != 0)) = false) ∧ Ex wo wr) (fun j' _ => gr.length - (intOf j').toNat)
                  case atStart => exact ⟨0, by omega, rfl, hid_ (fun k r h => by omega), EXR⟩
                  case round =>
                    clear EXR
                    obtain ⟨j, hj, rfl, hall, hx⟩ := hrel
                    have hst := HST4.out.later hx
                    have q3 := hst.ex.cell Q3.out
                    have q4 := hst.ex.cell Q4.out
                    have q0 := hst.ex.cell Q0.out
                    have qn := hst.nc
                    have HST5 := hid_ hst
                    by_cases hjl : j < gr.length
                    · obtain ⟨l, hl⟩ : ∃ l, gr[j]? = some l := ⟨_, List.getElem?_eq_getElem hjl⟩
                      obtain ⟨r, hr, rfl⟩ := HGRJ.out j l hl
                      obtain ⟨_, _, e1, _, _, h3⟩ := (HCV8.out.ex hst.ex).open
                      injection e1 with e1 e2 e3
                      subst e1 e3
                      obtain ⟨cb, co, rfl, hcc⟩ := h3 (by omega)
                      obtain ⟨u, c1, hu⟩ := hcc j _ hl
                      obtain ⟨zb, zo, rfl, hzc⟩ := Z3.out (by have := HGL.out; omega)
                      obtain ⟨uz, d1, huz⟩ := hzc j r hr
                      have d2 := (EX8.out.trans hst.ex).cell d1
                      have huz2 := huz.ex (EX8.out.trans hst.ex)
                      have hjz : j < H.length := by have := HGL.out; omega
                      obtain ⟨ua, uc, rfl, u1, u2, _⟩ := hu.open
                      obtain ⟨va, vc, rfl, v1, v2, _⟩ := huz2.open
                      unfold maxLen at u2 v2
                      have HCI := hid_ (fun n => ContainsFunc_in (wr.drewN n) (.pointer (some ⟨nb, 0, none⟩)) _ _ _ (hu.ex ((Ex.refl wr).drewN n)) (fun k => f ((supp r).getD k 0).toNat) (fun q i u hu => by
                        obtain ⟨y, hy, rfl⟩ : ∃ y, (supp r)[i]? = some y ∧ Value.int .i64 y = u := by
                          simp only [ints, List.getElem?_map] at hu
                          obtain ⟨y, hy, e⟩ := Option.map_eq_some_iff.1 hu
                          exact ⟨y, hy, e⟩
                        rw [show (supp r).getD i 0 = y by rw [List.getD_eq_getElem?_getD, hy]; rfl]
                        obtain ⟨y1, y2⟩ := supp_in (HLEN.out j r hr).1 i y hy
                        obtain ⟨Y, rfl⟩ : ∃ Y : Nat, y = Y := ⟨y.toNat, by omega⟩
                        rw [Int.toNat_natCast]
                        exact Peel3_any _ nb N Y _ f (by rw [cell?_drewN, cell?_drewN]; exact HST5.out.nc) (((HST5.out.inn.drewN n).drewN q).sl) (by omega)))
                      have HDT := hid_ (fun n => HDOT.out (wr.drewN n) _ _ r (hst.ex.drewN n) (huz2.ex ((Ex.refl wr).drewN n)) (hst.out.isl.ex ((Ex.refl wr).drewN n)))
                      have HRA := hid_ (range_any (supp r) (fun y => f y.toNat))
                      have HAL := hid_ (show ((inn f (supp r)).isEmpty && (kdot pn mn ml r (il N x) 0 != 0)) = false → ∀ (k : Nat) (s : List Int), k < j + 1 → H[k]? = some s → ((inn f (supp s)).isEmpty && (kdot pn mn ml s (il N x) 0 != 0)) = false from fun h k s hk hs => by
                        by_cases e : k = j
                        · subst e; rw [hr] at hs; injection hs with hs; subst hs; exact h
                        · exact hall.out k s (by omega) hs)
                      have HIE := hid_ (show (inn f (supp r)).isEmpty = !((supp r).any fun y => f y.toNat) from by
                        unfold inn
                        rw [Bool.eq_iff_iff, List.isEmpty_iff]
                        simp [List.filter_eq_nil_iff])
                      have HMEM := hid_ (List.mem_of_getElem? hr)
                      rw [HRA.out] at HCI
                      clear hst hl hr h3 hcc hu hzc d1 huz huz2 hall
                      obtain ⟨bi, hbi⟩ : ∃ bi, ((supp r).any fun y => f y.toNat) = bi := ⟨_, rfl⟩
                      rw [hbi] at HCI HIE
                      obtain ⟨kd, hkd⟩ : ∃ kd, kdot pn mn ml r (il N x) 0 = kd := ⟨_, rfl⟩
                      rw [hkd] at HDT HAL
                      have HKD := hid_ hkd
                      clear hbi hkd
                      cases bi with
                      | true =>
                        have HAL2 := hid_ (HAL.out (by rw [HIE.out]; rfl))
                        go_wp2_with fail
                        go_quiet ((first | (go_at_call 61; exact quiet_draw (HCI.out _)) | (go_at_call 68; exact quiet_draw (HDT.out _))))
                        go_wp2_with fail
                        go_roundw
                        case rel => exact ⟨j + 1, by omega, by go_num, HAL2, hx.drewN _⟩
                        case measure => simp [intOf]; omega
                      | false =>
                        by_cases hk0 : kd = 0
                        · have HAL2 := hid_ (HAL.out (by rw [hk0]; simp))
                          have hbk : ((kd : Int) != 0) = false := by simp; omega
                          clear hk0
                          go_wp2_with fail
                          go_quiet ((first | (go_at_call 61; exact quiet_draw (HCI.out _)) | (go_at_call 68; exact quiet_draw (HDT.out _))))
                          go_wp2_with fail
                          go_roundw
                          case rel => exact ⟨j + 1, by omega, by go_num, HAL2, hx.drewN _⟩
                          case measure => simp [intOf]; omega
                        · have hbk : ((kd : Int) != 0) = true := by simp; omega
                          have HFF := hid_ (show failB pn mn ml N H f x = true from by
                            rw [HFE.out, List.any_eq_true]
                            exact ⟨r, HMEM.out, by rw [HIE.out, HKD.out]; simpa using hk0⟩)
                          have HP := hid_ (HPS.out [] [] 12 (.inr (.inr (.inr ⟨HWL.out, HEN.out, HRI.out, x, f, HDN.out, .inl ⟨HFF.out, rfl, rfl, rfl⟩⟩))))
                          clear hk0
                          go_wp2_with fail
                          go_quiet ((first | (go_at_call 61; exact quiet_draw (HCI.out _)) | (go_at_call 68; exact quiet_draw (HDT.out _))))
                          go_wp2_with fail
                          refine bodyPost_ret (results_tmp3 rfl _ _ _) rfl ?_
                          exact ⟨[], [], _, _, _, rfl, HP.out, isl_nil _, isl_nil _, (EXW.out.trans hx).drewN _, fun b e => (nomatch e), fun b e => (nomatch e)⟩
                    · obtain rfl : j = gr.length := by omega
                      have HFF := hid_ (show failB pn mn ml N H f x = false from by
                        rw [HFE.out, List.any_eq_false]
                        intro r hr
                        obtain ⟨k, hk, e⟩ := List.getElem_of_mem hr
                        have := hall.out k r (by have := HGL.out; omega) (by rw [List.getElem?_eq_getElem hk, e])
                        rw [this]; simp)
                      have HP := hid_ (HPS.out (il N x) (lft N f) 0 (.inr (.inr (.inr ⟨HWL.out, HEN.out, HRI.out, x, f, HDN.out, .inr ⟨HFF.out, rfl, rfl, rfl⟩⟩))))
                      have HIS := hid_ hst.out.isl
                      have HOL := hid_ hst.out
                      have HSN := hid_ hst.inn.sl
                      clear hst hall
                      go_wp2_with fail
                      refine (HLF.out _ _ HSN.out).mono ?_
                      rintro e w15 ⟨u, rfl, hu, hu2, hx15⟩
                      go_wp2_with fail
                      refine bodyPost_ret (results_tmp3 rfl _ _ _) rfl ?_
                      exact ⟨_, _, _, _, _, rfl, HP.out, HIS.out.ex hx15, hu, (EXW.out.trans hx).trans hx15, fun b e => by
                        have e : some ob = some b := e
                        injection e with e
                        have h1 := HOL.out.lt.1
                        have h2 := EX8.out.size
                        omega, fun b e => by
                        have h1 := hu2 b e
                        have h2 := (EXW.out.trans hx).size
                        omega⟩
        · have hri' : risB N er = false := by simpa using hri
          have HP := hid_ (HPS.out [] [] 6 (.inr (.inr (.inl ⟨HWL.out, HEN.out, hri', rfl, rfl, rfl⟩))))
          rw [hri'] at HSET
          clear hri hri'
          go_wp2_with fail
          refine (HSET.out _ (HEV.out.ex EX8.out)).mono ?_
          rintro e w9 ⟨rfl, rfl⟩
          go_wp2_with fail
          refine bodyPost_ret (results_tmp3 rfl _ _ _) rfl ?_
          exact ⟨[], [], _, _, _, rfl, HP.out, isl_nil _, isl_nil _, EX8.out, fun b e => (nomatch e), fun b e => (nomatch e)⟩
      · have hen' : (entS (pn ^ mn) wd != 0) = true := by simpa using hen
        rw [hen'] at HC7
        have HP := hid_ (HPS.out [] [] 2 (.inr (.inl ⟨HWL.out, hen, rfl, rfl, rfl⟩)))
        clear hen hen'
        refine HC7.out.mono ?_
        rintro e w8 ⟨rfl, q8, rfl⟩
        go_wp2_with fail
        refine bodyPost_ret (results_tmp3 rfl _ _ _) rfl ?_
        exact ⟨[], [], _, _, _, rfl, HP.out, isl_nil _, isl_nil _, EX7.out.drewN q8, fun b e => (nomatch e), fun b e => (nomatch e)⟩
    · have hb : ((wd.length : Int) != (N : Int)) = true := by simp; omega
      have HP := hid_ (HPS.out [] [] 4 (.inl ⟨hwl, rfl, rfl, rfl⟩))
      clear hwl
      go_wp2_with fail
      refine bodyPost_ret (results_tmp3 rfl _ _ _) rfl ?_
      exact ⟨[], [], _, _, _, rfl, HP.out, isl_nil _, isl_nil _, EX7.out, fun b e => (nomatch e), fun b e => (nomatch e)⟩
  · have HP := hid_ (show PeelS p m ml cols H wd er [] [] ge from ⟨_, _, _, HGR.out, .inl ⟨h0, rfl, rfl, rfl⟩⟩)
    have hb : (ge != 0) = true := by simpa using h0
    have EX5 := hid_ (EX4.out.trans e5)
    clear h0 HGR e5 t0 t1
    go_wp2_with fail
    refine bodyPost_ret (results_tmp3 rfl _ _ _) rfl ?_
    exact ⟨[], [], _, _, _, rfl, HP.out, isl_nil _, isl_nil _, EX5.out, fun b e => (nomatch e), fun b e => (nomatch e)⟩
theorem Peel_any (p m : Int) (ml : List Int) (mv : Value) (w : World) (hmv : ISl w mv ml) (cols : Int) (H : List (List Int)) (v : Value) (hv : MSl w v H) (wd er : List Int) (wv ev : Value) (hwv : ISl w wv wd) (hev : ISl w ev er) :
    Calls Try.prog 30 #[.agg #[.int .i64 p, .int .i64 m, mv], .agg #[.int .i64 cols, v], wv, ev] w fun r w' =>
      ∃ X L xv lv e, r = .returned (.tuple #[xv, lv, .int .i64 e]) ∧ PeelS p m ml cols H wd er X L e ∧ ISl w' xv X ∧ ISl w' lv L ∧ Ex w w' := by
  refine (Peel_anyO p m ml mv w hmv cols H v hv wd er wv ev hwv hev).mono ?_
  rintro e w' ⟨X, L, xv, lv, e, h1, h2, h3, h4, h5, _⟩
  exact ⟨X, L, xv, lv, e, h1, h2, h3, h4, h5⟩
end Go.Proofs.Ytpphaicbdeeacaa
