/- Plain mathematics: the product of polynomials, and its reduction from the highest power on. -/
/- Walks of the methods of a field: Mul, Inv, Div, Dot. -/
/- Walks of the reference of the package field: Order, prime, digits. -/
/- Walks of the reference of the package field: Mul. -/
/- Walks of the reference of the package field: Inv, Dot. -/
/- Slices of the call's own with spare room, read as functions. -/
/- Walks of the reference of the package field: divides. -/
import Derived.Test.YtgdmlmhpineibaaGreatZb00
import Derived.Test.YtgdmlmhpineibaaGreatZb02
import Derived.Test.YtgdmlmhpineibaaGreatZb07
namespace Go.Proofs.YtgdmlmhpineibaaGreat
set_option linter.unusedVariables false
set_option linter.unusedSimpArgs false

section
variable {m : Nat} {low : Vc}
theorem ap_congr {n : Nat} {c d x : Vc} (h : ∀ j, j < n → c j = d j) : ap m low n c x = ap m low n d x := by
  induction n with
  | zero => rfl
  | succ n ih => simp only [ap]; rw [ih fun j hj => h j (by omega), h n (by omega)]
theorem sXn_top (hm : 1 ≤ m) : sXn m low m one_ = fun j => - ap m low m low one_ j := by
  rw [ap_one m low (Nat.le_refl _)]
  obtain ⟨k, rfl⟩ : ∃ k, m = k + 1 := ⟨m - 1, by omega⟩
  rw [show sXn (k + 1) low (k + 1) one_ = sX (k + 1) low (sXn (k + 1) low k one_) from rfl, sXn_one k (by omega)]
  funext j
  show (if j < k + 1 then (if j = 0 then 0 else if j - 1 = k then (1 : Int) else 0) - (if k + 1 - 1 = k then (1 : Int) else 0) * low j else 0) = - (if j < k + 1 then low j else 0)
  by_cases hj : j < k + 1
  · have e : (if j = 0 then (0 : Int) else if j - 1 = k then 1 else 0) = 0 := by
      split
      · rfl
      · rw [if_neg (by omega)]
    rw [if_pos hj, if_pos hj, e, show (if k + 1 - 1 = k then (1 : Int) else 0) = 1 by rw [if_pos (by omega)]]
    omega
  · rw [if_neg hj, if_neg hj]; rfl
end
end Go.Proofs.YtgdmlmhpineibaaGreat
namespace Go.Proofs.YtgdmlmhpineibaaGreat
set_option linter.unusedVariables false
set_option linter.unusedSimpArgs false
open Go.RowKit

/-- The inverse of an element other than 0; 0 of 0. -/
def kinv (p m : Nat) (ml : List Int) (z : Nat) : Nat := ((List.range (p ^ m)).find? fun y => decide (1 ≤ y) && kmul p m (lw ml) z y == 1).getD 0
theorem kinv_eq {p m : Nat} {ml : List Int} (hp : 2 ≤ p) (hm : 1 ≤ m) (hF : IsF p m (lw ml)) {z y : Nat} (hz : z < p ^ m) (hz1 : 1 ≤ z) (hy : y < p ^ m) (h : kmul p m (lw ml) z y = 1) : kinv p m ml z = y := by
  have hy1 : 1 ≤ y := by
    rcases Nat.eq_zero_or_pos y with e | e
    · subst e; rw [kmul_comm, kmul_zero (by omega)] at h; omega
    · exact e
  unfold kinv
  rcases hf : (List.range (p ^ m)).find? (fun y => decide (1 ≤ y) && kmul p m (lw ml) z y == 1) with _ | i
  · exfalso
    have := List.find?_eq_none.1 hf y (List.mem_range.2 hy)
    simp [hy1, h] at this
  · have h1 := List.find?_some hf
    have h2 := List.mem_range.1 (List.mem_of_find?_eq_some hf)
    simp at h1
    exact hF.cancel hp hm hz1 hz h2 hy (by rw [Option.getD_some, kmul_comm i z, h1.2, kmul_comm y z, h])
section
variable {b p m x0 : Nat} {ml : List Int}

theorem GFat.isF {w : World} (hg : GFat w b p m ml x0) (h1 : 1 ≤ x0) (h2 : x0 < p ^ m) : IsF p m (lw ml) := ⟨x0, h1, h2, hg.gen⟩
set_option maxRecDepth 100000 in
set_option maxHeartbeats 1000000 in
theorem Mul_any (w : World) (hg : GFat w b p m ml x0) (x y : Int) :
    Calls Tryz.prog 59 #[.pointer (some ⟨b, 0, none⟩), .int .i64 x, .int .i64 y] w (Qt w (.int .i64 (kmul p m (lw ml) (kin (p ^ m) x) (kin (p ^ m) y) : Nat))) := by
  have HI := hid_ (fun n x => in_any (w.drewN n) (hg.drewN n) x)
  have HI0 := hid_ (in_any w hg x)
  have p2 := hg.sh.p2
  have m1 := hg.sh.m1
  have hq := hg.sh.q
  have hq1 := one_lt_q p2 m1
  have c3 := hg.c3
  obtain ⟨ev, c4, he⟩ := hg.c4
  obtain ⟨lv, f, c5, hl, hf⟩ := hg.c5
  obtain ⟨ea, ec, rfl, e1, e2, e3⟩ := he.open
  obtain ⟨la, lc, rfl, l1, l2, l3⟩ := hl.open
  rw [il_length] at *
  obtain ⟨eb, eo, rfl, e4⟩ := e3 (by omega)
  obtain ⟨lb, lo, rfl, l4⟩ := l3 (by omega)
  have hz : kin (p ^ m) x < p ^ m := kin_lt (by omega) x
  have ht : kin (p ^ m) y < p ^ m := kin_lt (by omega) y
  have HIY := hid_ (fun n => HI.out n y)
  clear HI e3 l3 he hl
  unfold maxLen at e2 l2
  generalize kin (p ^ m) x = z at *
  generalize kin (p ^ m) y = t at *
  by_cases h0 : z = 0
  · subst h0
    have HZ := hid_ (kmul_zero (m := m) (low := lw ml) (show 1 ≤ p by omega) t)
    clear hg c3 c4 c5 hz ht hq hq1 hf e4 l4 e1 e2 l1 l2
    go_enter Tryz.func59, Tryz.ntmps59
    go_wp2_with fail
    refine HI0.out.mono ?_
    rintro e w1 ⟨rfl, n0, rfl⟩
    go_wp2_with fail
    refine (HIY.out n0).mono ?_
    rintro e w1 ⟨rfl, n1, rfl⟩
    go_wp2_with fail
    go_ret
    exact ⟨ret_int (by rw [HZ.out]; rfl), _, rfl⟩
  · have z1 : 1 ≤ z := by omega
    have hzb : ((z : Int) == 0) = false := by simp; omega
    by_cases h1 : t = 0
    · subst h1
      have HZ := hid_ (show kmul p m (lw ml) z 0 = 0 by rw [kmul_comm]; exact kmul_zero (show 1 ≤ p by omega) z)
      clear hg c3 c4 c5 hz ht hq hq1 hf e4 l4 e1 e2 l1 l2 h0
      go_enter Tryz.func59, Tryz.ntmps59
      go_wp2_with fail
      refine HI0.out.mono ?_
      rintro e w1 ⟨rfl, n0, rfl⟩
      go_wp2_with fail
      refine (HIY.out n0).mono ?_
      rintro e w1 ⟨rfl, n1, rfl⟩
      go_wp2_with fail
      go_ret
      exact ⟨ret_int (by rw [HZ.out]; rfl), _, rfl⟩
    · have t1 : 1 ≤ t := by omega
      have htb : ((t : Int) == 0) = false := by simp; omega
      obtain ⟨i, hi, hzi⟩ := hg.gen.all p2 m1 z1 hz
      obtain ⟨j, hj, htj⟩ := hg.gen.all p2 m1 t1 ht
      have hlz := l4 z (f z) (il_get hz f)
      have hlt := l4 t (f t) (il_get ht f)
      have hfz := hf i hi
      have hft := hf j hj
      rw [hzi] at hfz
      rw [htj] at hft
      rw [hfz] at hlz
      rw [hft] at hlt
      obtain ⟨r, hr⟩ : ∃ r, (i + j) % (p ^ m - 1) = r := ⟨_, rfl⟩
      have hrq : r < p ^ m - 1 := by rw [← hr]; exact Nat.mod_lt _ (by omega)
      have her := e4 r _ (il_get hrq _)
      have hpr : pwI p m ml x0 r = ((kmul p m (lw ml) z t : Nat) : Int) := by
        unfold pwI
        rw [← hr, hg.gen.mod p2 m1, kpw_add p2 m1, hzi, htj]
      rw [hpr] at her
      have HTM : Hid (((i : Int) + j).tmod (((p ^ m : Nat) : Int) - 1) = (r : Int)) := hid_ (by
        rw [Int.tmod_eq_emod_of_nonneg (by omega), ← hr, Int.natCast_emod]
        congr 1
        omega)
      generalize kmul p m (lw ml) z t = kz at *
      generalize p ^ m = q at *
      have C3 := hid_ c3
      have C4 := hid_ c4
      have C5 := hid_ c5
      clear hg hf e4 l4 hfz hft hzi htj hr hpr h0 h1 c3 c4 c5
      go_enter Tryz.func59, Tryz.ntmps59
      go_wp2_with fail
      refine HI0.out.mono ?_
      rintro e w1 ⟨rfl, n0, rfl⟩
      go_wp2_with fail
      refine (HIY.out n0).mono ?_
      rintro e w1 ⟨rfl, n1, rfl⟩
      have c3 := C3.out
      have c4 := C4.out
      have c5 := C5.out
      have i1 : IntKind.i64.wrap ((i : Int) + j) = (i : Int) + j := IntWalk.i64_in _ (by omega)
      have i2 : IntKind.i64.wrap ((q : Int) - 1) = (q : Int) - 1 := IntWalk.i64_in _ (by omega)
      have i3 := HTM.out
      have i4 : ¬ q = 1 := by omega
      have i5 : ¬ ((q : Int) - 1 = 0) := by omega
      go_wp2_with fail
      go_quiet (fail)
      go_wp2_with fail
      go_ret
      exact ⟨rfl, _, World.drewN_drewN _ _ _⟩
/-- What Inv hands back. -/
def invR (p m : Nat) (ml : List Int) (z : Nat) : Value := if z = 0 then .tuple #[.int .i64 0, .int .i64 7] else .tuple #[.int .i64 (kinv p m ml z : Nat), .int .i64 0]
set_option maxRecDepth 100000 in
set_option maxHeartbeats 1000000 in
theorem Inv_any (w : World) (hg : GFat w b p m ml x0) (hx1 : 1 ≤ x0) (hx2 : x0 < p ^ m) (x : Int) :
    Calls Tryz.prog 52 #[.pointer (some ⟨b, 0, none⟩), .int .i64 x] w (Qt w (invR p m ml (kin (p ^ m) x))) := by
  have HI0 := hid_ (in_any w hg x)
  have hF := hg.isF hx1 hx2
  have p2 := hg.sh.p2
  have m1 := hg.sh.m1
  have hq := hg.sh.q
  have hq1 := one_lt_q p2 m1
  have c3 := hg.c3
  obtain ⟨ev, c4, he⟩ := hg.c4
  obtain ⟨lv, f, c5, hl, hf⟩ := hg.c5
  obtain ⟨ea, ec, rfl, e1, e2, e3⟩ := he.open
  obtain ⟨la, lc, rfl, l1, l2, l3⟩ := hl.open
  rw [il_length] at *
  obtain ⟨eb, eo, rfl, e4⟩ := e3 (by omega)
  obtain ⟨lb, lo, rfl, l4⟩ := l3 (by omega)
  have hz : kin (p ^ m) x < p ^ m := kin_lt (by omega) x
  clear e3 l3 he hl
  unfold maxLen at e2 l2
  generalize kin (p ^ m) x = z at *
  by_cases h0 : z = 0
  · subst h0
    have HZ := hid_ (show invR p m ml 0 = .tuple #[.int .i64 0, .int .i64 7] from rfl)
    clear hg c3 c4 c5 hz hq hq1 hf e4 l4 e1 e2 l1 l2
    go_enter Tryz.func52, Tryz.ntmps52
    go_wp2_with fail
    refine HI0.out.mono ?_
    rintro e w1 ⟨rfl, n0, rfl⟩
    go_wp2_with fail
    go_ret2
    exact ⟨by rw [HZ.out]; rfl, _, rfl⟩
  · have z1 : 1 ≤ z := by omega
    have hzb : ((z : Int) == 0) = false := by simp; omega
    obtain ⟨i, hi, hzi⟩ := hg.gen.all p2 m1 z1 hz
    have hlz := l4 z (f z) (il_get hz f)
    have hfz := hf i hi
    rw [hzi] at hfz
    rw [hfz] at hlz
    obtain ⟨r, hr⟩ : ∃ r, (p ^ m - 1 - i) % (p ^ m - 1) = r := ⟨_, rfl⟩
    have hrq : r < p ^ m - 1 := by rw [← hr]; exact Nat.mod_lt _ (by omega)
    have her := e4 r _ (il_get hrq _)
    have hinv := hg.gen.inv p2 m1 hi
    rw [hr, hzi] at hinv
    have hk := kinv_eq p2 m1 hF hz z1 (kpw_lt p2 m1 _ _) hinv
    have hpr : pwI p m ml x0 r = ((kinv p m ml z : Nat) : Int) := by unfold pwI; rw [hk]
    rw [hpr] at her
    have HZ := hid_ (show invR p m ml z = .tuple #[.int .i64 (kinv p m ml z : Nat), .int .i64 0] by unfold invR; rw [if_neg h0])
    have HTM : Hid ((((p ^ m : Nat) : Int) - 1 - (i : Int)).tmod (((p ^ m : Nat) : Int) - 1) = (r : Int)) := hid_ (by
      rw [Int.tmod_eq_emod_of_nonneg (by omega), ← hr, Int.natCast_emod]
      congr 1
      · omega
      · omega)
    generalize kinv p m ml z = kz at *
    generalize p ^ m = q at *
    have C3 := hid_ c3
    have C4 := hid_ c4
    have C5 := hid_ c5
    clear hg hF hf e4 l4 hfz hzi hr hpr h0 c3 c4 c5 hinv hk
    go_enter Tryz.func52, Tryz.ntmps52
    go_wp2_with fail
    refine HI0.out.mono ?_
    rintro e w1 ⟨rfl, n0, rfl⟩
    have c3 := C3.out
    have c4 := C4.out
    have c5 := C5.out
    have i1 : IntKind.i64.wrap ((q : Int) - 1 - (i : Int)) = (q : Int) - 1 - i := IntWalk.i64_in _ (by omega)
    have i2 : IntKind.i64.wrap ((q : Int) - 1) = (q : Int) - 1 := IntWalk.i64_in _ (by omega)
    have i3 := HTM.out
    have i4 : ¬ q = 1 := by omega
    have i5 : ¬ ((q : Int) - 1 = 0) := by omega
    go_wp2_with fail
    go_quiet (fail)
    go_wp2_with fail
    go_ret2
    exact ⟨by rw [HZ.out]; rfl, _, World.drewN_drewN _ _ _⟩
theorem kinv_lt {p m : Nat} {ml : List Int} (hq : 1 ≤ p ^ m) (z : Nat) : kinv p m ml z < p ^ m := by
  unfold kinv
  rcases hf : (List.range (p ^ m)).find? (fun y => decide (1 ≤ y) && kmul p m (lw ml) z y == 1) with _ | i
  · show 0 < p ^ m; omega
  · exact List.mem_range.1 (List.mem_of_find?_eq_some hf)
/-- The sum of the products. -/
def kdot (p m : Nat) (ml : List Int) : List Int → List Int → Nat → Nat
  | x :: l, y :: k, s => kdot p m ml l k (kadd p m s (kmul p m (lw ml) (kin (p ^ m) x) (kin (p ^ m) y)))
  | _, _, s => s
theorem kdot_step {p m : Nat} {ml : List Int} : ∀ (l k : List Int) (i : Nat) (s : Nat) (x y : Int), l[i]? = some x → k[i]? = some y →
    kdot p m ml (l.take (i + 1)) (k.take (i + 1)) s = kadd p m (kdot p m ml (l.take i) (k.take i) s) (kmul p m (lw ml) (kin (p ^ m) x) (kin (p ^ m) y))
  | [], k, i, s, x, y, h, _ => by simp at h
  | a :: l, [], i, s, x, y, _, h => by simp at h
  | a :: l, c :: k, 0, s, x, y, h, h' => by
    simp at h h'
    subst h; subst h'
    cases l <;> cases k <;> simp [kdot]
  | a :: l, c :: k, i + 1, s, x, y, h, h' => by
    simp only [List.take_succ_cons, kdot]
    exact kdot_step l k i _ x y (by simpa using h) (by simpa using h')
theorem kdot_lt {p m : Nat} {ml : List Int} (hp : 1 ≤ p) : ∀ (l k : List Int) (s : Nat), s < p ^ m → kdot p m ml l k s < p ^ m
  | x :: l, y :: k, s, _ => kdot_lt hp l k _ (kadd_lt hp _ _)
  | [], _, s, h => by simpa [kdot] using h
  | _ :: _, [], s, h => by simpa [kdot] using h
theorem kdot_take {p m : Nat} {ml : List Int} : ∀ (l k : List Int) (i s : Nat), min l.length k.length ≤ i → kdot p m ml (l.take i) (k.take i) s = kdot p m ml l k s
  | [], k, i, s, _ => by simp [kdot]
  | a :: l, [], i, s, _ => by cases i <;> simp [kdot]
  | a :: l, c :: k, 0, s, h => by simp at h
  | a :: l, c :: k, i + 1, s, h => by
    simp only [List.take_succ_cons, kdot]
    exact kdot_take l k i _ (by simp at h; omega)
end
end Go.Proofs.YtgdmlmhpineibaaGreat
/- Walks of the reference of the package field: Is, In, Digits, Value, Add, Neg. -/
/- Walks of the reference of the package field: Add, Neg. -/
namespace Go.Proofs.YtgdmlmhpineibaaGreat
set_option linter.unusedVariables false
set_option linter.unusedSimpArgs false
open Go.RowKit

theorem gt_div {q p : Int} (hp : 1 ≤ p) : 256 / p < q ↔ 256 < q * p := by
  constructor
  · intro h; exact Int.lt_mul_of_ediv_lt (by omega) h
  · intro h; exact Int.ediv_lt_of_lt_mul (by omega) h
set_option maxHeartbeats 1000000 in
theorem rOrder_any (p m : Int) (mv : Value) (w : World) :
    Calls Tryz.prog 14 #[.agg #[.int .i64 p, .int .i64 m, mv]] w fun r w' => r = .returned (.int .i64 (ordS p m)) ∧ Ex w w' := by
  obtain ⟨xb, hxb⟩ : ∃ xb, w.heap.size = xb := ⟨_, rfl⟩
  have d0 : (w.alloc (.cells #[.int .i64 p, .int .i64 m, mv] 24)).cell? ⟨xb, 0, none⟩ = some (.int .i64 p) := by rw [← hxb]; simp
  have d1 : (w.alloc (.cells #[.int .i64 p, .int .i64 m, mv] 24)).cell? ⟨xb, 1, none⟩ = some (.int .i64 m) := by rw [← hxb]; simp
  have e0 : Ex w (w.alloc (.cells #[.int .i64 p, .int .i64 m, mv] 24)) := (Ex.refl _).alloc _
  have D0 := hid_ d0
  have D1 := hid_ d1
  clear d0 d1
  by_cases h : 2 ≤ p ∧ 1 ≤ m ∧ m ≤ 8
  · obtain ⟨h1, h3, h4⟩ := h
    have HO := hid_ (show ordS p m = if p ^ m.toNat ≤ 256 then p ^ m.toNat else 0 by unfold ordS; by_cases h : p ^ m.toNat ≤ 256 <;> simp [h, h1, h3, h4])
    go_enter Tryz.func14, Tryz.ntmps14
    have d0 := D0.out
    have d1 := D1.out
    go_wp2
    clear hxb D0 D1
    generalize w.alloc (.cells #[.int .i64 p, .int .i64 m, mv] 24) = w1 at *
    go_loop [3, 4] (fun q' i' => ∃ i : Nat, i ≤ m.toNat ∧ i' = .int .i64 i ∧ q' = .int .i64 (p ^ i) ∧ 1 ≤ p ^ i ∧ p ^ i ≤ 256) (fun _ i' => m.toNat - (intOf i').toNat)
    case atStart => exact ⟨0, by omega, rfl, by simp, by simp, by simp⟩
    case round =>
      obtain ⟨i, hi, rfl, rfl, q1, q2⟩ := hrel
      have HS := hid_ (Int.pow_succ p i)
      have HM := hid_ (show i < m.toNat → p ^ (i + 1) ≤ p ^ m.toNat from fun h => pow_mono_ h1 h)
      have HG := hid_ (gt_div (q := p ^ i) (show 1 ≤ p by omega))
      have q4 : 1 ≤ p ^ i * p := by
        have := Int.mul_pos (show 0 < p ^ i by omega) (show 0 < p by omega)
        omega
      have e1 := Int.ediv_nonneg (show (0 : Int) ≤ 256 by omega) (show 0 ≤ p by omega)
      have e2 : 256 / p ≤ 256 := Int.ediv_le_self _ (by omega)
      by_cases hlt : (i : Int) < m
      · by_cases hq : 256 < p ^ i * p
        · have HB := HM.out (by omega)
          rw [HS.out] at HB
          have HN := hid_ (show ¬ p ^ m.toNat ≤ 256 by omega)
          have hg := HG.out.2 hq
          clear HB HM HG
          generalize p ^ i = y at *
          go_wp2
          go_ret
          exact ⟨ret_int (by rw [HO.out, if_neg (by have := HN.out; omega)]), e0⟩
        · have HE := hid_ (show p ^ (i + 1) = p ^ i * p from HS.out)
          have hg : ¬ 256 / p < p ^ i := fun h => hq (HG.out.1 h)
          have hg' : p ^ i ≤ 256 / p := by omega
          clear HM HS HG hg
          generalize p ^ i = y at *
          go_wp2
          go_round
          case rel => exact ⟨i + 1, by omega, by go_num, by rw [HE.out], by rw [HE.out]; omega, by rw [HE.out]; omega⟩
          case measure => simp [intOf]; omega
      · have hi' : i = m.toNat := by omega
        have HN := hid_ (show p ^ m.toNat = p ^ i by rw [hi'])
        clear HM HS HG
        generalize p ^ i = y at *
        go_wp2
        go_ret
        exact ⟨ret_int (by rw [HO.out, HN.out, if_pos q2]), e0⟩
  · have HO := hid_ (show ordS p m = 0 by
      unfold ordS
      rw [if_neg]
      rintro ⟨h1, h2, h3, h4⟩
      exact h ⟨h1, h2, h3⟩)
    have c : p < 2 ∨ (2 ≤ p ∧ m < 1) ∨ (2 ≤ p ∧ 1 ≤ m ∧ 8 < m) := by omega
    clear h
    rcases c with c | ⟨c1, c2⟩ | ⟨c1, c2, c3⟩
    all_goals
      go_enter Tryz.func14, Tryz.ntmps14
      have d0 := D0.out
      have d1 := D1.out
      go_wp2
      go_ret
      exact ⟨ret_int HO.out.symm, e0⟩
end Go.Proofs.YtgdmlmhpineibaaGreat
namespace Go.Proofs.YtgdmlmhpineibaaGreat
set_option linter.unusedVariables false
set_option linter.unusedSimpArgs false
open Go.RowKit

/-- The block of a description that came in. -/
theorem box_facts (w : World) (p m : Int) (mv : Value) : (w.alloc (.cells #[.int .i64 p, .int .i64 m, mv] 24)).cell? ⟨w.heap.size, 0, none⟩ = some (.int .i64 p) ∧
    (w.alloc (.cells #[.int .i64 p, .int .i64 m, mv] 24)).cell? ⟨w.heap.size, 1, none⟩ = some (.int .i64 m) ∧
    (w.alloc (.cells #[.int .i64 p, .int .i64 m, mv] 24)).cell? ⟨w.heap.size, 2, none⟩ = some mv ∧ Ex w (w.alloc (.cells #[.int .i64 p, .int .i64 m, mv] 24)) ∧
    (w.alloc (.cells #[.int .i64 p, .int .i64 m, mv] 24)).heap.size = w.heap.size + 1 :=
  ⟨by simp, by simp, by simp, (Ex.refl _).alloc _, by simp⟩
section
variable {p m : Nat} {ml : List Int} {mv : Value}

end
end Go.Proofs.YtgdmlmhpineibaaGreat
namespace Go.Proofs.YtgdmlmhpineibaaGreat
set_option linter.unusedVariables false
set_option linter.unusedSimpArgs false
open Go.RowKit

section
variable {p m : Nat} {ml : List Int} {mv : Value}

theorem il_mem {n : Nat} {f : Nat → Int} {z : Int} (h : z ∈ il n f) : ∃ j, j < n ∧ f j = z := by
  obtain ⟨j, hj, rfl⟩ := List.mem_map.1 h
  exact ⟨j, List.mem_range.1 hj, rfl⟩
end
end Go.Proofs.YtgdmlmhpineibaaGreat
namespace Go.Proofs.YtgdmlmhpineibaaGreat
set_option linter.unusedVariables false
set_option linter.unusedSimpArgs false
open Go.RowKit

section
variable {p m : Nat} {ml : List Int} {mv : Value}

end
end Go.Proofs.YtgdmlmhpineibaaGreat
namespace Go.Proofs.YtgdmlmhpineibaaGreat
set_option linter.unusedVariables false
set_option linter.unusedSimpArgs false
open Go.RowKit

section
variable {p m : Nat} {ml : List Int} {mv : Value}

end
end Go.Proofs.YtgdmlmhpineibaaGreat
namespace Go.Proofs.YtgdmlmhpineibaaGreat
set_option linter.unusedVariables false
set_option linter.unusedSimpArgs false
open Go.RowKit

/-- A slice of the call's own of n elements in the block g, with room for cap. -/
def OwnC (w : World) (base : Nat) (e : TypeId) (g n cap : Nat) (c : Nat → Value) : Prop := w.ownsRow base e 1 (.slice (some ⟨g, 0, none⟩) n cap) n (vs n c)
section
variable {w : World} {base : Nat} {e : TypeId} {g n cap : Nat} {c : Nat → Value}
theorem OwnC.cell (h : OwnC w base e g n cap c) {j : Nat} (hj : j < n) : w.cell? ⟨g, j, none⟩ = some (c j) := by
  rw [World.ownsRow.cellAt h j (by omega), vs_get hj]
theorem OwnC.frz (h : OwnC w base e g n cap c) (j : Nat) : w.frozen? ⟨g, j, none⟩ = false := World.ownsRow.frozenAt h j
theorem OwnC.set (h : OwnC w base e g n cap c) (j : Nat) (u : Value) : OwnC (w.setCell ⟨g, j, none⟩ u) base e g n cap (upd c j u) := by
  have := (World.ownsRow.stored h j u).1
  rwa [vs_set] at this
theorem OwnC.congr {d : Nat → Value} (h : OwnC w base e g n cap c) (hc : ∀ j, j < n → c j = d j) : OwnC w base e g n cap d := by
  unfold OwnC at *
  rwa [vs_congr hc] at h
theorem OwnC.icongr {f k : Nat → Int} (h : OwnC w base e g n cap (iv f)) (hc : ∀ j, j < n → f j = k j) : OwnC w base e g n cap (iv k) :=
  h.congr fun j hj => congrArg (Value.int .i64) (hc j hj)
theorem OwnC.ex {w' : World} (h : OwnC w base e g n cap c) (hx : Ex w w') : OwnC w' base e g n cap c := ownsRow_ex h hx
theorem OwnC.drewN (h : OwnC w base e g n cap c) (k : Nat) : OwnC (w.drewN k) base e g n cap c := h.ex ((Ex.refl w).drewN k)
theorem OwnC.lt (h : OwnC w base e g n cap c) : base ≤ g ∧ g < w.heap.size := World.ownsRow.lt h g rfl
theorem OwnC.caps (h : OwnC w base e g n cap c) : n ≤ cap ∧ cap ≤ maxLen := by
  rcases h.2 with ⟨h', _⟩ | ⟨g', cap', cur, h', _, hg, h1, h2, _⟩
  · simp at h'
  · simp only [Value.slice.injEq, Option.some.injEq, Addr.mk.injEq, and_true, true_and] at h'
    obtain ⟨_, rfl⟩ := h'
    exact ⟨h1, h2⟩
theorem OwnC.other (h : OwnC w base e g n cap c) {a : Addr} (ha : g ≠ a.block) (u : Value) : OwnC (w.setCell a u) base e g n cap c :=
  ownsRow_setCell_ne h (fun e => ha (by simpa [Value.ownBlock] using e)) u
theorem OwnC.exSet {a : World} (h : OwnC w base e g n cap c) (hb : a.heap.size ≤ base) (hx : Ex a w) (j : Nat) (u : Value) : Ex a (w.setCell ⟨g, j, none⟩ u) :=
  hx.setCell (p := ⟨g, j, none⟩) (Nat.le_trans hb h.lt.1) u
theorem OwnC.sl (h : OwnC w base e g n cap c) : Sl w (.slice (some ⟨g, 0, none⟩) n cap) n 1 (vs n c) := Sl.own h
theorem OwnC.isl {f : Nat → Int} (h : OwnC w base e g n cap (iv f)) : ISl w (.slice (some ⟨g, 0, none⟩) n cap) (il n f) := by
  unfold ISl
  rw [il_length, ints_il]
  exact h.sl
/-- What an own slice of at least one element is. -/
theorem ownC_of {v : Value} (h : w.ownsRow base e 1 v n (vs n c)) (hn : 1 ≤ n) : ∃ g cap, v = .slice (some ⟨g, 0, none⟩) n cap ∧ OwnC w base e g n cap c := by
  rcases h.2 with ⟨_, h0⟩ | ⟨g, cap, cur, rfl, _⟩
  · omega
  · exact ⟨g, cap, rfl, h⟩
end
end Go.Proofs.YtgdmlmhpineibaaGreat
/- Walks of the reference of the package field: irreducible, Check. -/
namespace Go.Proofs.YtgdmlmhpineibaaGreat
set_option linter.unusedVariables false
set_option linter.unusedSimpArgs false
open Go.RowKit

/-- The coefficients of the monic polynomial with the low coefficients ml. -/
def mon (ml : List Int) : Vc := fun j => if j < ml.length then ml.getD j 0 else if j = ml.length then 1 else 0
/-- Does the monic polynomial with the d low coefficients low divide the one with the low coefficients ml? -/
def dvB (p d : Nat) (low : Vc) (ml : List Int) : Bool := (List.range d).all fun j => ap d low (ml.length + 1) (mon ml) one_ j % (p : Int) == 0
end Go.Proofs.YtgdmlmhpineibaaGreat
namespace Go.Proofs.YtgdmlmhpineibaaGreat
set_option linter.unusedVariables false
set_option linter.unusedSimpArgs false
open Go.RowKit

def irB (p : Nat) (ml : List Int) : Bool := (List.range (ml.length / 2)).all fun d => (List.range (p ^ (d + 1))).all fun v => !dvB p (d + 1) (dig p (d + 1) v) ml
theorem irB_no {p : Nat} {ml : List Int} {d v : Nat} (h1 : 2 * (d + 1) ≤ ml.length) (h2 : v < p ^ (d + 1)) (h3 : dvB p (d + 1) (dig p (d + 1) v) ml = true) : irB p ml = false := by
  unfold irB
  rw [List.all_eq_false]
  refine ⟨d, List.mem_range.2 (by omega), ?_⟩
  rw [Bool.not_eq_true, List.all_eq_false]
  exact ⟨v, List.mem_range.2 h2, by simp [h3]⟩
theorem irB_yes {p : Nat} {ml : List Int} (h : ∀ d v, 2 * (d + 1) ≤ ml.length → v < p ^ (d + 1) → dvB p (d + 1) (dig p (d + 1) v) ml = false) : irB p ml = true := by
  unfold irB
  rw [List.all_eq_true]
  intro d hd
  rw [List.all_eq_true]
  intro v hv
  rw [h d v (by have := List.mem_range.1 hd; omega) (List.mem_range.1 hv)]; rfl
/-- What the reference's Check says. -/
def chkS (p m : Int) (ml : List Int) : Int := if (shB p m ml && (decide (m = 1) || irB p.toNat ml)) = true then 0 else 1
theorem chk_bad {p m : Int} {ml : List Int} (h : shB p m ml = false) : chkS p m ml = 1 := by unfold chkS; rw [h]; rfl
end Go.Proofs.YtgdmlmhpineibaaGreat
