/- Walks of the methods of a field: Mul, Inv, Div, Dot. -/
import Derived.Test.YtpphaicbdeeacaaFldE
namespace Go.Proofs.Ytpphaicbdeeacaa
set_option linter.unusedVariables false
set_option linter.unusedSimpArgs false
open Go.RowKit

/-- The inverse of an element other than 0; 0 of 0. -/
def kinv (p m : Nat) (ml : List Int) (z : Nat) : Nat := ((List.range (p ^ m)).find? fun y => decide (1 ≤ y) && kmul p m (lw ml) z y == 1).getD 0
theorem kinv_eq {p m : Nat} {ml : List Int} (hp : 2 ≤ p) (hm : 1 ≤ m) (hF : IsF p m (lw ml)) {z y : Nat} (hz : z < p ^ m) (hz1 : 1 ≤ z) (hy : y < p ^ m) (h : kmul p m (lw ml) z y = 1) : kinv p m ml z = y := by
  have hy1 : 1 ≤ y := by
    rcases Nat.eq_zero_or_pos y with e | e
    · subst e; rw [kmul_comm, kmul_zero (by omega)] at h; omega
    · exact e
  unfold kinv
  rcases hf : (List.range (p ^ m)).find? (fun y => decide (1 ≤ y) && kmul p m (lw ml) z y == 1) with _ | i
  · exfalso
    have := List.find?_eq_none.1 hf y (List.mem_range.2 hy)
    simp [hy1, h] at this
  · have h1 := List.find?_some hf
    have h2 := List.mem_range.1 (List.mem_of_find?_eq_some hf)
    simp at h1
    exact hF.cancel hp hm hz1 hz h2 hy (by rw [Option.getD_some, kmul_comm i z, h1.2, kmul_comm y z, h])

section
variable {b p m x0 : Nat} {ml : List Int}

theorem GFat.isF {w : World} (hg : GFat w b p m ml x0) (h1 : 1 ≤ x0) (h2 : x0 < p ^ m) : IsF p m (lw ml) := ⟨x0, h1, h2, hg.gen⟩

set_option maxRecDepth 100000 in
set_option maxHeartbeats 1000000 in
theorem Mul_any (w : World) (hg : GFat w b p m ml x0) (x y : Int) :
    Calls Try.prog 91 #[.pointer (some ⟨b, 0, none⟩), .int .i64 x, .int .i64 y] w (Qt w (.int .i64 (kmul p m (lw ml) (kin (p ^ m) x) (kin (p ^ m) y) : Nat))) := by
  have HI := hid_ (fun n x => in_any (w.drewN n) (hg.drewN n) x)
  have HI0 := hid_ (in_any w hg x)
  have p2 := hg.sh.p2
  have m1 := hg.sh.m1
  have hq := hg.sh.q
  have hq1 := one_lt_q p2 m1
  have c3 := hg.c3
  obtain ⟨ev, c4, he⟩ := hg.c4
  obtain ⟨lv, f, c5, hl, hf⟩ := hg.c5
  obtain ⟨ea, ec, rfl, e1, e2, e3⟩ := he.open
  obtain ⟨la, lc, rfl, l1, l2, l3⟩ := hl.open
  rw [il_length] at *
  obtain ⟨eb, eo, rfl, e4⟩ := e3 (by omega)
  obtain ⟨lb, lo, rfl, l4⟩ := l3 (by omega)
  have hz : kin (p ^ m) x < p ^ m := kin_lt (by omega) x
  have ht : kin (p ^ m) y < p ^ m := kin_lt (by omega) y
  have HIY := hid_ (fun n => HI.out n y)
  clear HI e3 l3 he hl
  unfold maxLen at e2 l2
  generalize kin (p ^ m) x = z at *
  generalize kin (p ^ m) y = t at *
  by_cases h0 : z = 0
  · subst h0
    have HZ := hid_ (kmul_zero (m := m) (low := lw ml) (show 1 ≤ p by omega) t)
    clear hg c3 c4 c5 hz ht hq hq1 hf e4 l4 e1 e2 l1 l2
    go_enter Try.func91, Try.ntmps91
    go_wp2_with fail
    refine HI0.out.mono ?_
    rintro e w1 ⟨rfl, n0, rfl⟩
    go_wp2_with fail
    refine (HIY.out n0).mono ?_
    rintro e w1 ⟨rfl, n1, rfl⟩
    go_wp2_with fail
    go_ret
    exact ⟨ret_int (by rw [HZ.out]; rfl), _, rfl⟩
  · have z1 : 1 ≤ z := by omega
    have hzb : ((z : Int) == 0) = false := by simp; omega
    by_cases h1 : t = 0
    · subst h1
      have HZ := hid_ (show kmul p m (lw ml) z 0 = 0 by rw [kmul_comm]; exact kmul_zero (show 1 ≤ p by omega) z)
      clear hg c3 c4 c5 hz ht hq hq1 hf e4 l4 e1 e2 l1 l2 h0
      go_enter Try.func91, Try.ntmps91
      go_wp2_with fail
      refine HI0.out.mono ?_
      rintro e w1 ⟨rfl, n0, rfl⟩
      go_wp2_with fail
      refine (HIY.out n0).mono ?_
      rintro e w1 ⟨rfl, n1, rfl⟩
      go_wp2_with fail
      go_ret
      exact ⟨ret_int (by rw [HZ.out]; rfl), _, rfl⟩
    · have t1 : 1 ≤ t := by omega
      have htb : ((t : Int) == 0) = false := by simp; omega
      obtain ⟨i, hi, hzi⟩ := hg.gen.all p2 m1 z1 hz
      obtain ⟨j, hj, htj⟩ := hg.gen.all p2 m1 t1 ht
      have hlz := l4 z (f z) (il_get hz f)
      have hlt := l4 t (f t) (il_get ht f)
      have hfz := hf i hi
      have hft := hf j hj
      rw [hzi] at hfz
      rw [htj] at hft
      rw [hfz] at hlz
      rw [hft] at hlt
      obtain ⟨r, hr⟩ : ∃ r, (i + j) % (p ^ m - 1) = r := ⟨_, rfl⟩
      have hrq : r < p ^ m - 1 := by rw [← hr]; exact Nat.mod_lt _ (by omega)
      have her := e4 r _ (il_get hrq _)
      have hpr : pwI p m ml x0 r = ((kmul p m (lw ml) z t : Nat) : Int) := by
        unfold pwI
        rw [← hr, hg.gen.mod p2 m1, kpw_add p2 m1, hzi, htj]
      rw [hpr] at her
      have HTM : Hid (((i : Int) + j).tmod (((p ^ m : Nat) : Int) - 1) = (r : Int)) := hid_ (by
        rw [Int.tmod_eq_emod_of_nonneg (by omega), ← hr, Int.natCast_emod]
        congr 1
        omega)
      generalize kmul p m (lw ml) z t = kz at *
      generalize p ^ m = q at *
      have C3 := hid_ c3
      have C4 := hid_ c4
      have C5 := hid_ c5
      clear hg hf e4 l4 hfz hft hzi htj hr hpr h0 h1 c3 c4 c5
      go_enter Try.func91, Try.ntmps91
      go_wp2_with fail
      refine HI0.out.mono ?_
      rintro e w1 ⟨rfl, n0, rfl⟩
      go_wp2_with fail
      refine (HIY.out n0).mono ?_
      rintro e w1 ⟨rfl, n1, rfl⟩
      have c3 := C3.out
      have c4 := C4.out
      have c5 := C5.out
      have i1 : IntKind.i64.wrap ((i : Int) + j) = (i : Int) + j := IntWalk.i64_in _ (by omega)
      have i2 : IntKind.i64.wrap ((q : Int) - 1) = (q : Int) - 1 := IntWalk.i64_in _ (by omega)
      have i3 := HTM.out
      have i4 : ¬ q = 1 := by omega
      have i5 : ¬ ((q : Int) - 1 = 0) := by omega
      go_wp2_with fail
      go_quiet (fail)
      go_wp2_with fail
      go_ret
      exact ⟨rfl, _, World.drewN_drewN _ _ _⟩

/-- What Inv hands back. -/
def invR (p m : Nat) (ml : List Int) (z : Nat) : Value := if z = 0 then .tuple #[.int .i64 0, .int .i64 7] else .tuple #[.int .i64 (kinv p m ml z : Nat), .int .i64 0]

set_option maxRecDepth 100000 in
set_option maxHeartbeats 1000000 in
theorem Inv_any (w : World) (hg : GFat w b p m ml x0) (hx1 : 1 ≤ x0) (hx2 : x0 < p ^ m) (x : Int) :
    Calls Try.prog 90 #[.pointer (some ⟨b, 0, none⟩), .int .i64 x] w (Qt w (invR p m ml (kin (p ^ m) x))) := by
  have HI0 := hid_ (in_any w hg x)
  have hF := hg.isF hx1 hx2
  have p2 := hg.sh.p2
  have m1 := hg.sh.m1
  have hq := hg.sh.q
  have hq1 := one_lt_q p2 m1
  have c3 := hg.c3
  obtain ⟨ev, c4, he⟩ := hg.c4
  obtain ⟨lv, f, c5, hl, hf⟩ := hg.c5
  obtain ⟨ea, ec, rfl, e1, e2, e3⟩ := he.open
  obtain ⟨la, lc, rfl, l1, l2, l3⟩ := hl.open
  rw [il_length] at *
  obtain ⟨eb, eo, rfl, e4⟩ := e3 (by omega)
  obtain ⟨lb, lo, rfl, l4⟩ := l3 (by omega)
  have hz : kin (p ^ m) x < p ^ m := kin_lt (by omega) x
  clear e3 l3 he hl
  unfold maxLen at e2 l2
  generalize kin (p ^ m) x = z at *
  by_cases h0 : z = 0
  · subst h0
    have HZ := hid_ (show invR p m ml 0 = .tuple #[.int .i64 0, .int .i64 7] from rfl)
    clear hg c3 c4 c5 hz hq hq1 hf e4 l4 e1 e2 l1 l2
    go_enter Try.func90, Try.ntmps90
    go_wp2_with fail
    refine HI0.out.mono ?_
    rintro e w1 ⟨rfl, n0, rfl⟩
    go_wp2_with fail
    go_ret2
    exact ⟨by rw [HZ.out]; rfl, _, rfl⟩
  · have z1 : 1 ≤ z := by omega
    have hzb : ((z : Int) == 0) = false := by simp; omega
    obtain ⟨i, hi, hzi⟩ := hg.gen.all p2 m1 z1 hz
    have hlz := l4 z (f z) (il_get hz f)
    have hfz := hf i hi
    rw [hzi] at hfz
    rw [hfz] at hlz
    obtain ⟨r, hr⟩ : ∃ r, (p ^ m - 1 - i) % (p ^ m - 1) = r := ⟨_, rfl⟩
    have hrq : r < p ^ m - 1 := by rw [← hr]; exact Nat.mod_lt _ (by omega)
    have her := e4 r _ (il_get hrq _)
    have hinv := hg.gen.inv p2 m1 hi
    rw [hr, hzi] at hinv
    have hk := kinv_eq p2 m1 hF hz z1 (kpw_lt p2 m1 _ _) hinv
    have hpr : pwI p m ml x0 r = ((kinv p m ml z : Nat) : Int) := by unfold pwI; rw [hk]
    rw [hpr] at her
    have HZ := hid_ (show invR p m ml z = .tuple #[.int .i64 (kinv p m ml z : Nat), .int .i64 0] by unfold invR; rw [if_neg h0])
    have HTM : Hid ((((p ^ m : Nat) : Int) - 1 - (i : Int)).tmod (((p ^ m : Nat) : Int) - 1) = (r : Int)) := hid_ (by
      rw [Int.tmod_eq_emod_of_nonneg (by omega), ← hr, Int.natCast_emod]
      congr 1
      · omega
      · omega)
    generalize kinv p m ml z = kz at *
    generalize p ^ m = q at *
    have C3 := hid_ c3
    have C4 := hid_ c4
    have C5 := hid_ c5
    clear hg hF hf e4 l4 hfz hzi hr hpr h0 c3 c4 c5 hinv hk
    go_enter Try.func90, Try.ntmps90
    go_wp2_with fail
    refine HI0.out.mono ?_
    rintro e w1 ⟨rfl, n0, rfl⟩
    have c3 := C3.out
    have c4 := C4.out
    have c5 := C5.out
    have i1 : IntKind.i64.wrap ((q : Int) - 1 - (i : Int)) = (q : Int) - 1 - i := IntWalk.i64_in _ (by omega)
    have i2 : IntKind.i64.wrap ((q : Int) - 1) = (q : Int) - 1 := IntWalk.i64_in _ (by omega)
    have i3 := HTM.out
    have i4 : ¬ q = 1 := by omega
    have i5 : ¬ ((q : Int) - 1 = 0) := by omega
    go_wp2_with fail
    go_quiet (fail)
    go_wp2_with fail
    go_ret2
    exact ⟨by rw [HZ.out]; rfl, _, World.drewN_drewN _ _ _⟩

/-- What Div hands back. -/
def divR (p m : Nat) (ml : List Int) (y z : Nat) : Value := if z = 0 then .tuple #[.int .i64 0, .int .i64 7] else .tuple #[.int .i64 (kmul p m (lw ml) y (kinv p m ml z) : Nat), .int .i64 0]

theorem kinv_lt {p m : Nat} {ml : List Int} (hq : 1 ≤ p ^ m) (z : Nat) : kinv p m ml z < p ^ m := by
  unfold kinv
  rcases hf : (List.range (p ^ m)).find? (fun y => decide (1 ≤ y) && kmul p m (lw ml) z y == 1) with _ | i
  · show 0 < p ^ m; omega
  · exact List.mem_range.1 (List.mem_of_find?_eq_some hf)

set_option maxRecDepth 100000 in
set_option maxHeartbeats 1000000 in
theorem Div_any (w : World) (hg : GFat w b p m ml x0) (hx1 : 1 ≤ x0) (hx2 : x0 < p ^ m) (y x : Int) :
    Calls Try.prog 67 #[.pointer (some ⟨b, 0, none⟩), .int .i64 y, .int .i64 x] w (Qt w (divR p m ml (kin (p ^ m) y) (kin (p ^ m) x))) := by
  have HI := hid_ (Inv_any w hg hx1 hx2 x)
  have HM := hid_ (fun n z => Mul_any (w.drewN n) (hg.drewN n) y z)
  have p2 := hg.sh.p2
  have hkl := kinv_lt (ml := ml) (show 1 ≤ p ^ m from Nat.pow_pos (by omega)) (kin (p ^ m) x)
  have hko := kin_of hkl
  have HD := hid_ (show divR p m ml (kin (p ^ m) y) (kin (p ^ m) x) = if kin (p ^ m) x = 0 then .tuple #[.int .i64 0, .int .i64 7] else .tuple #[.int .i64 (kmul p m (lw ml) (kin (p ^ m) y) (kinv p m ml (kin (p ^ m) x)) : Nat), .int .i64 0] from rfl)
  by_cases h0 : kin (p ^ m) x = 0
  · have HE : Hid (invR p m ml (kin (p ^ m) x) = .tuple #[.int .i64 0, .int .i64 7]) := hid_ (by unfold invR; rw [if_pos h0])
    have HH := hid_ h0
    clear hg h0 hkl hko
    go_enter Try.func67, Try.ntmps67
    go_wp2_with fail
    refine HI.out.mono ?_
    rw [HE.out]
    rintro e w1 ⟨rfl, n0, rfl⟩
    go_wp2_with fail
    go_ret2
    exact ⟨by rw [HD.out, if_pos HH.out]; rfl, _, rfl⟩
  · have HE : Hid (invR p m ml (kin (p ^ m) x) = .tuple #[.int .i64 (kinv p m ml (kin (p ^ m) x) : Nat), .int .i64 0]) := hid_ (by unfold invR; rw [if_neg h0])
    have HMM := hid_ (fun n => by have := HM.out n (kinv p m ml (kin (p ^ m) x) : Nat); rw [hko] at this; exact this)
    have HH := hid_ h0
    clear hg h0 hkl hko HM
    generalize kinv p m ml (kin (p ^ m) x) = kz at *
    go_enter Try.func67, Try.ntmps67
    go_wp2_with fail
    refine HI.out.mono ?_
    rw [HE.out]
    rintro e w1 ⟨rfl, n0, rfl⟩
    go_wp2_with fail
    refine (HMM.out n0).mono ?_
    rintro e w1 ⟨rfl, n1, rfl⟩
    go_wp2_with fail
    go_ret2
    exact ⟨by rw [HD.out, if_neg HH.out]; rfl, _, rfl⟩

/-- The sum of the products. -/
def kdot (p m : Nat) (ml : List Int) : List Int → List Int → Nat → Nat
  | x :: l, y :: k, s => kdot p m ml l k (kadd p m s (kmul p m (lw ml) (kin (p ^ m) x) (kin (p ^ m) y)))
  | _, _, s => s
theorem kdot_step {p m : Nat} {ml : List Int} : ∀ (l k : List Int) (i : Nat) (s : Nat) (x y : Int), l[i]? = some x → k[i]? = some y →
    kdot p m ml (l.take (i + 1)) (k.take (i + 1)) s = kadd p m (kdot p m ml (l.take i) (k.take i) s) (kmul p m (lw ml) (kin (p ^ m) x) (kin (p ^ m) y))
  | [], k, i, s, x, y, h, _ => by simp at h
  | a :: l, [], i, s, x, y, _, h => by simp at h
  | a :: l, c :: k, 0, s, x, y, h, h' => by
    simp at h h'
    subst h; subst h'
    cases l <;> cases k <;> simp [kdot]
  | a :: l, c :: k, i + 1, s, x, y, h, h' => by
    simp only [List.take_succ_cons, kdot]
    exact kdot_step l k i _ x y (by simpa using h) (by simpa using h')
theorem kdot_lt {p m : Nat} {ml : List Int} (hp : 1 ≤ p) : ∀ (l k : List Int) (s : Nat), s < p ^ m → kdot p m ml l k s < p ^ m
  | x :: l, y :: k, s, _ => kdot_lt hp l k _ (kadd_lt hp _ _)
  | [], _, s, h => by simpa [kdot] using h
  | _ :: _, [], s, h => by simpa [kdot] using h
theorem kdot_take {p m : Nat} {ml : List Int} : ∀ (l k : List Int) (i s : Nat), min l.length k.length ≤ i → kdot p m ml (l.take i) (k.take i) s = kdot p m ml l k s
  | [], k, i, s, _ => by simp [kdot]
  | a :: l, [], i, s, _ => by cases i <;> simp [kdot]
  | a :: l, c :: k, 0, s, h => by simp at h
  | a :: l, c :: k, i + 1, s, h => by
    simp only [List.take_succ_cons, kdot]
    exact kdot_take l k i _ (by simp at h; omega)

set_option maxRecDepth 100000 in
set_option maxHeartbeats 1000000 in
theorem Dot_any (w : World) (hg : GFat w b p m ml x0) (l k : List Int) (v1 v2 : Value) (h1 : ISl w v1 l) (h2 : ISl w v2 k) :
    Calls Try.prog 68 #[.pointer (some ⟨b, 0, none⟩), v1, v2] w (Qt w (.int .i64 (kdot p m ml l k 0 : Nat))) := by
  have p2 := hg.sh.p2
  have hq1 : 0 < p ^ m := Nat.pow_pos (by omega)
  obtain ⟨a, ac, rfl, a1, a2, a3⟩ := h1.open
  obtain ⟨c, cc, rfl, b1, b2, b3⟩ := h2.open
  have A3 := hid_ a3
  have B3 := hid_ b3
  unfold maxLen at a2 b2
  have HG := hid_ hg
  have HKL := hid_ (fun x y => kin_of (kmul_lt (m := m) (low := lw ml) (show 1 ≤ p by omega) x y))
  have HKD := hid_ (fun i => kin_of (kdot_lt (m := m) (ml := ml) (show 1 ≤ p by omega) (l.take i) (k.take i) 0 hq1))
  have HST := hid_ (fun i x y h h' => kdot_step (p := p) (m := m) (ml := ml) l k i 0 x y h h')
  have HTK := hid_ (kdot_take (p := p) (m := m) (ml := ml) l k (min l.length k.length) 0 (Nat.le_refl _))
  have HMN := hid_ (show ((min l.length k.length : Nat) : Int) = min (l.length : Int) (k.length : Int) by omega)
  clear h1 h2 a3 b3 hg
  go_enter Try.func68, Try.ntmps68
  have HK0 := hid_ (show kdot p m ml (l.take 0) (k.take 0) 0 = 0 by simp [kdot])
  by_cases hlk : l.length ≤ k.length
  · rw [Nat.min_eq_left hlk] at HTK
    have hd : decide ((l.length : Int) ≤ (k.length : Int)) = true := by simpa using hlk
    clear HMN
    go_wp2_with fail
    go_loopw [7, 8, 14] (fun s' _ i' wr => ∃ i n : Nat, i ≤ l.length ∧ i' = .int .i64 i ∧ s' = .int .i64 (kdot p m ml (l.take i) (k.take i) 0 : Nat) ∧ wr = w.drewN n) (fun _ _ i' _ => l.length - (intOf i').toNat)
    case atStart => exact ⟨0, 0, by omega, rfl, by rw [HK0.out]; rfl, rfl⟩
    case round =>
      obtain ⟨i, n, hi, rfl, rfl, rfl⟩ := hrel
      have HD2 := hid_ (HKD.out i)
      have HEN := hid_ (show i = l.length → kdot p m ml (l.take i) (k.take i) 0 = kdot p m ml l k 0 from fun h => by rw [h]; exact HTK.out)
      by_cases hlt : i < l.length
      · obtain ⟨x, hx⟩ : ∃ x, l[i]? = some x := ⟨_, List.getElem?_eq_getElem (by omega)⟩
        obtain ⟨y, hy⟩ : ∃ y, k[i]? = some y := ⟨_, List.getElem?_eq_getElem (by omega)⟩
        obtain ⟨ab, ao, rfl, ha⟩ := A3.out (by omega)
        obtain ⟨cb, co, rfl, hc⟩ := B3.out (by omega)
        have c1 := ((Ex.refl w).drewN n).cell (ha i x hx)
        have c2 := ((Ex.refl w).drewN n).cell (hc i y hy)
        have hgW := HG.out.drewN n
        have HS := hid_ (HST.out i x y hx hy)
        have hil : i < l.length := by omega
        have hik : i < k.length := by omega
        obtain ⟨W, hW⟩ : ∃ W, w.drewN n = W := ⟨_, rfl⟩
        rw [hW] at c1 c2 hgW ⊢
        have HW := hid_ hW
        have HMU := hid_ (fun n' => Mul_any (W.drewN n') (hgW.drewN n') x y)
        have HAD := hid_ (fun n' => by have := Add_any (W.drewN n') (hgW.drewN n') (kdot p m ml (l.take i) (k.take i) 0 : Nat) (kmul p m (lw ml) (kin (p ^ m) x) (kin (p ^ m) y) : Nat); rw [HKL.out, HD2.out] at this; exact this)
        clear ha hc hx hy hW hgW
        generalize kmul p m (lw ml) (kin (p ^ m) x) (kin (p ^ m) y) = mu at *
        generalize kdot p m ml (l.take i) (k.take i) 0 = sd at *
        go_wp2_with fail
        go_quiet ((first | (go_at_call 91; exact quiet_draw (HMU.out _)) | (go_at_call 92; exact quiet_draw (HAD.out _))))
        go_wp2_with fail
        go_roundw
        case rel => exact ⟨i + 1, _, by omega, by go_num, by rw [HS.out], by rw [← HW.out, World.drewN_drewN]⟩
        case measure => simp [intOf]; omega
      · have hiN : i = l.length := by omega
        have HR := hid_ (HEN.out hiN)
        generalize kdot p m ml (l.take i) (k.take i) 0 = sd at *
        go_wp2_with fail
        go_ret
        exact ⟨ret_int (by rw [HR.out]), n, rfl⟩
  · rw [Nat.min_eq_right (by omega)] at HTK
    have hkl : k.length < l.length := by omega
    have hd : decide ((l.length : Int) ≤ (k.length : Int)) = false := by simpa using hkl
    clear HMN hlk
    go_wp2_with fail
    go_loopw [7, 8, 14] (fun s' _ i' wr => ∃ i n : Nat, i ≤ k.length ∧ i' = .int .i64 i ∧ s' = .int .i64 (kdot p m ml (l.take i) (k.take i) 0 : Nat) ∧ wr = w.drewN n) (fun _ _ i' _ => k.length - (intOf i').toNat)
    case atStart => exact ⟨0, 0, by omega, rfl, by rw [HK0.out]; rfl, rfl⟩
    case round =>
      obtain ⟨i, n, hi, rfl, rfl, rfl⟩ := hrel
      have HD2 := hid_ (HKD.out i)
      have HEN := hid_ (show i = k.length → kdot p m ml (l.take i) (k.take i) 0 = kdot p m ml l k 0 from fun h => by rw [h]; exact HTK.out)
      by_cases hlt : i < k.length
      · obtain ⟨x, hx⟩ : ∃ x, l[i]? = some x := ⟨_, List.getElem?_eq_getElem (by omega)⟩
        obtain ⟨y, hy⟩ : ∃ y, k[i]? = some y := ⟨_, List.getElem?_eq_getElem (by omega)⟩
        obtain ⟨ab, ao, rfl, ha⟩ := A3.out (by omega)
        obtain ⟨cb, co, rfl, hc⟩ := B3.out (by omega)
        have c1 := ((Ex.refl w).drewN n).cell (ha i x hx)
        have c2 := ((Ex.refl w).drewN n).cell (hc i y hy)
        have hgW := HG.out.drewN n
        have HS := hid_ (HST.out i x y hx hy)
        have hil : i < l.length := by omega
        have hik : i < k.length := by omega
        obtain ⟨W, hW⟩ : ∃ W, w.drewN n = W := ⟨_, rfl⟩
        rw [hW] at c1 c2 hgW ⊢
        have HW := hid_ hW
        have HMU := hid_ (fun n' => Mul_any (W.drewN n') (hgW.drewN n') x y)
        have HAD := hid_ (fun n' => by have := Add_any (W.drewN n') (hgW.drewN n') (kdot p m ml (l.take i) (k.take i) 0 : Nat) (kmul p m (lw ml) (kin (p ^ m) x) (kin (p ^ m) y) : Nat); rw [HKL.out, HD2.out] at this; exact this)
        clear ha hc hx hy hW hgW
        generalize kmul p m (lw ml) (kin (p ^ m) x) (kin (p ^ m) y) = mu at *
        generalize kdot p m ml (l.take i) (k.take i) 0 = sd at *
        go_wp2_with fail
        go_quiet ((first | (go_at_call 91; exact quiet_draw (HMU.out _)) | (go_at_call 92; exact quiet_draw (HAD.out _))))
        go_wp2_with fail
        go_roundw
        case rel => exact ⟨i + 1, _, by omega, by go_num, by rw [HS.out], by rw [← HW.out, World.drewN_drewN]⟩
        case measure => simp [intOf]; omega
      · have hiN : i = k.length := by omega
        have HR := hid_ (HEN.out hiN)
        generalize kdot p m ml (l.take i) (k.take i) 0 = sd at *
        go_wp2_with fail
        go_ret
        exact ⟨ret_int (by rw [HR.out]), n, rfl⟩
end
end Go.Proofs.Ytpphaicbdeeacaa
