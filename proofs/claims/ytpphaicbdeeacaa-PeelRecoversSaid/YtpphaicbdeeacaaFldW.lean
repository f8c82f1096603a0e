/- Walks of the reference of the package field: Inv, Dot. -/
import Derived.Test.YtpphaicbdeeacaaFldV
namespace Go.Proofs.Ytpphaicbdeeacaa
set_option linter.unusedVariables false
set_option linter.unusedSimpArgs false
open Go.RowKit

section
variable {p m : Nat} {ml : List Int} {mv : Value}

/-- Nothing below y. -/
theorem kinv_none {z : Nat} (h : ∀ y, 1 ≤ y → y < p ^ m → kmul p m (lw ml) z y ≠ 1) : kinv p m ml z = 0 := by
  unfold kinv
  rcases hf : (List.range (p ^ m)).find? (fun y => decide (1 ≤ y) && kmul p m (lw ml) z y == 1) with _ | i
  · rfl
  · exfalso
    have h1 := List.find?_some hf
    have h2 := List.mem_range.1 (List.mem_of_find?_eq_some hf)
    simp at h1
    exact h i h1.1 h2 h1.2
theorem kinv_first {z y : Nat} (h1 : 1 ≤ y) (h2 : y < p ^ m) (h3 : kmul p m (lw ml) z y = 1) (h : ∀ c, 1 ≤ c → c < y → kmul p m (lw ml) z c ≠ 1) : kinv p m ml z = y := by
  unfold kinv
  rcases hf : (List.range (p ^ m)).find? (fun y => decide (1 ≤ y) && kmul p m (lw ml) z y == 1) with _ | i
  · exfalso
    have := List.find?_eq_none.1 hf y (List.mem_range.2 h2)
    simp [h1, h3] at this
  · have k1 := List.find?_some hf
    simp at k1
    rcases Nat.lt_trichotomy i y with e | e | e
    · exact absurd k1.2 (h i k1.1 e)
    · exact e
    · exfalso
      have := List.not_of_lt_findIdx (p := fun y => decide (1 ≤ y) && kmul p m (lw ml) z y == 1) (xs := List.range (p ^ m)) (i := y) (by
        rcases Nat.lt_or_ge y (List.findIdx (fun y => decide (1 ≤ y) && kmul p m (lw ml) z y == 1) (List.range (p ^ m))) with a | a
        · exact a
        · exfalso
          have hk : List.findIdx (fun y => decide (1 ≤ y) && kmul p m (lw ml) z y == 1) (List.range (p ^ m)) < (List.range (p ^ m)).length := by simp; omega
          have hq := List.find?_eq_some_iff_getElem.1 hf
          obtain ⟨_, j, hj, e1, e2⟩ := hq
          simp at e1
          subst e1
          have := e2 y (by omega)
          simp [h1, h3] at this)
      simp [h1, h3] at this

set_option maxRecDepth 100000 in
set_option maxHeartbeats 1000000 in
theorem rInv_any (w : World) (hf : FSh p m ml) (hmv : ISl w mv ml) (x : Int) :
    Calls Try.prog 76 #[.agg #[.int .i64 p, .int .i64 m, mv], .int .i64 x] w fun r w' => r = .returned (.int .i64 (kinv p m ml (kin (p ^ m) x) : Nat)) ∧ Ex w w' := by
  obtain ⟨d0, d1, d2, e0, hsz⟩ := box_facts w p m mv
  have hor := hf.ord
  have hq := hf.q
  have HOR := hid_ (fun w => by have := rOrder_any p m mv w; rw [hor] at this; exact this)
  have HM := hid_ (fun w y (h : ISl w mv ml) => rMul_any w hf h x y)
  have HMV := hid_ hmv
  have HN := hid_ (kinv_none (p := p) (m := m) (ml := ml) (z := kin (p ^ m) x))
  have HF := hid_ (fun y h1 h2 h3 h => kinv_first (p := p) (m := m) (ml := ml) (z := kin (p ^ m) x) (y := y) h1 h2 h3 h)
  have HKI := hid_ (fun y (h : y < p ^ m) => kin_of h)
  generalize kin (p ^ m) x = z at *
  obtain ⟨q, hqq⟩ : ∃ q, p ^ m = q := ⟨_, rfl⟩
  simp only [hqq] at hq HOR HM HN HF HKI
  clear hf hmv hqq hor hsz
  go_enter Try.func76, Try.ntmps76
  go_wp2_with fail
  generalize w.alloc (.cells #[.int .i64 p, .int .i64 m, mv] 24) = w1 at *
  go_loopw [5] (fun y' wr => ∃ y : Nat, 1 ≤ y ∧ y' = .int .i64 y ∧ Hid (∀ c, 1 ≤ c → c < y → kmul p m (lw ml) z c ≠ 1) ∧ y ≤ 300 ∧ Ex w1 wr) (fun y' _ => 300 - (intOf y').toNat)
  case atStart => exact ⟨1, by omega, rfl, hid_ (fun c a b => by omega), by omega, Ex.refl _⟩
  case round =>
    obtain ⟨y, hy, rfl, hall, hy3, hx⟩ := hrel
    have r0 := hx.cell d0
    have r1 := hx.cell d1
    have r2 := hx.cell d2
    go_wp2_with fail
    refine (HOR.out _).mono ?_
    rintro e w2 ⟨rfl, hx2⟩
    have s0 := hx2.cell r0
    have s1 := hx2.cell r1
    have s2 := hx2.cell r2
    by_cases hlt : y < q
    · go_wp2_with fail
      refine (HM.out _ _ (HMV.out.ex (e0.trans (hx.trans hx2)))).mono ?_
      rw [HKI.out y hlt]
      rintro e w3 ⟨rfl, hx3⟩
      by_cases h1 : kmul p m (lw ml) z y = 1
      · have hb : (((kmul p m (lw ml) z y : Nat) : Int) == 1) = true := by simp; omega
        have HR := hid_ (HF.out y hy hlt h1 hall.out)
        clear h1
        generalize kmul p m (lw ml) z y = kz at *
        go_wp2_with fail
        go_ret
        exact ⟨ret_int (by rw [HR.out]), e0.trans ((hx.trans hx2).trans hx3)⟩
      · have hb : (((kmul p m (lw ml) z y : Nat) : Int) == 1) = false := by simp; omega
        have HA := hid_ (show ∀ c, 1 ≤ c → c < y + 1 → kmul p m (lw ml) z c ≠ 1 from fun c a b => by
          by_cases e : c = y
          · subst e; exact h1
          · exact hall.out c a (by omega))
        clear h1
        generalize kmul p m (lw ml) z y = kz at *
        go_wp2_with fail
        go_roundw
        case rel => exact ⟨y + 1, by omega, by go_num, HA, by omega, (hx.trans hx2).trans hx3⟩
        case measure => simp [intOf]; omega
    · have HR := hid_ (HN.out fun c a b => hall.out c a (by omega))
      go_wp2_with fail
      go_ret
      exact ⟨ret_int (by rw [HR.out]; rfl), e0.trans (hx.trans hx2)⟩

set_option maxRecDepth 100000 in
set_option maxHeartbeats 2000000 in
theorem rDot_any (w : World) (hf : FSh p m ml) (hmv : ISl w mv ml) (l k : List Int) (v1 v2 : Value) (h1 : ISl w v1 l) (h2 : ISl w v2 k) :
    Calls Try.prog 75 #[.agg #[.int .i64 p, .int .i64 m, mv], v1, v2] w fun r w' => r = .returned (.int .i64 (kdot p m ml l k 0 : Nat)) ∧ Ex w w' := by
  obtain ⟨d0, d1, d2, e0, hsz⟩ := box_facts w p m mv
  have p2 := hf.p2
  have hq1 : 0 < p ^ m := Nat.pow_pos (by omega)
  obtain ⟨a, ac, rfl, a1, a2, a3⟩ := (h1.ex e0).open
  obtain ⟨c, cc, rfl, b1, b2, b3⟩ := (h2.ex e0).open
  have A3 := hid_ a3
  have B3 := hid_ b3
  unfold maxLen at a2 b2
  have HMV := hid_ hmv
  have HM := hid_ (fun w x y (h : ISl w mv ml) => rMul_any w hf h x y)
  have HA := hid_ (fun w x y (h : ISl w mv ml) => rAdd_any w hf h x y)
  have HKL := hid_ (fun x y => kin_of (kmul_lt (m := m) (low := lw ml) (show 1 ≤ p by omega) x y))
  have HKD := hid_ (fun i => kin_of (kdot_lt (m := m) (ml := ml) (show 1 ≤ p by omega) (l.take i) (k.take i) 0 hq1))
  have HST := hid_ (fun i x y h h' => kdot_step (p := p) (m := m) (ml := ml) l k i 0 x y h h')
  have HTK := hid_ (fun i h => kdot_take (p := p) (m := m) (ml := ml) l k i 0 h)
  have HK0 := hid_ (show kdot p m ml (l.take 0) (k.take 0) 0 = 0 by simp [kdot])
  clear h1 h2 a3 b3 hf hmv hsz
  go_enter Try.func75, Try.ntmps75
  go_wp2_with fail
  obtain ⟨xb, hxb⟩ : ∃ xb, w.heap.size = xb := ⟨_, rfl⟩
  rw [hxb] at d0 d1 d2
  try simp only [hxb]
  generalize w.alloc (.cells #[.int .i64 p, .int .i64 m, mv] 24) = w1 at *
  clear hxb
  go_loopw [7, 8] (fun s' i' wr => ∃ i : Nat, i ≤ l.length ∧ i ≤ k.length ∧ i' = .int .i64 i ∧ s' = .int .i64 (kdot p m ml (l.take i) (k.take i) 0 : Nat) ∧ Ex w1 wr) (fun _ i' _ => l.length - (intOf i').toNat)
  case atStart => exact ⟨0, by omega, by omega, rfl, by rw [HK0.out]; rfl, Ex.refl _⟩
  case round =>
    obtain ⟨i, hi1, hi2, rfl, rfl, hx⟩ := hrel
    have HD2 := hid_ (HKD.out i)
    have HEN := hid_ (HTK.out i)
    by_cases hlt : i < l.length ∧ i < k.length
    · obtain ⟨hil, hik⟩ := hlt
      obtain ⟨x, hxx⟩ : ∃ x, l[i]? = some x := ⟨_, List.getElem?_eq_getElem hil⟩
      obtain ⟨y, hyy⟩ : ∃ y, k[i]? = some y := ⟨_, List.getElem?_eq_getElem hik⟩
      obtain ⟨ab, ao, rfl, ha⟩ := A3.out (by omega)
      obtain ⟨cb, co, rfl, hc⟩ := B3.out (by omega)
      have c1 := hx.cell (ha i x hxx)
      have c2 := hx.cell (hc i y hyy)
      have r0 := hx.cell d0
      have r1 := hx.cell d1
      have r2 := hx.cell d2
      have HS := hid_ (HST.out i x y hxx hyy)
      clear ha hc hxx hyy
      have HAD := hid_ (fun w h => by have := HA.out w (kdot p m ml (l.take i) (k.take i) 0 : Nat) (kmul p m (lw ml) (kin (p ^ m) x) (kin (p ^ m) y) : Nat) h; rw [HKL.out, HD2.out] at this; exact this)
      generalize kdot p m ml (l.take i) (k.take i) 0 = sd at *
      have hxw := e0.trans hx
      go_wp2_with fail
      go_region_held3 (fun w' => w'.cell? ⟨xb, 0, none⟩ = some (.int .i64 p) ∧ w'.cell? ⟨xb, 1, none⟩ = some (.int .i64 m) ∧ w'.cell? ⟨xb, 2, none⟩ = some mv ∧ w'.cell? ⟨ab, ao + i, none⟩ = some (.int .i64 x) ∧ w'.cell? ⟨cb, co + i, none⟩ = some (.int .i64 y) ∧ Ex w w' ∧ Ex w1 w')
        (first | exact ⟨r0, r1, r2, c1, c2, hxw.drew, hx.drew⟩ | exact ⟨hx1.cell r0, hx1.cell r1, hx1.cell r2, hx1.cell c1, hx1.cell c2, hxw.drew.trans hx1, hx.drew.trans hx1⟩ | (obtain ⟨k0, k1, k2, k3, k4, k5, k6⟩ := ‹_ ∧ _ ∧ _ ∧ _ ∧ _ ∧ Ex w _ ∧ Ex w1 _›; exact ⟨hx1.cell k0, hx1.cell k1, hx1.cell k2, hx1.cell k3, hx1.cell k4, k5.trans hx1, k6.trans hx1⟩))
        ((first
          | (go_at_call 73; refine (HM.out _ _ _ (HMV.out.ex (by first | exact hxw.drew | exact (‹_ ∧ _ ∧ _ ∧ _ ∧ _ ∧ Ex w _ ∧ Ex w1 _›).2.2.2.2.2.1))).mono ?_; rintro e w2 ⟨rfl, hx1⟩)
          | (go_at_call 79; refine (HAD.out _ (HMV.out.ex (by first | exact hxw.drew | exact (‹_ ∧ _ ∧ _ ∧ _ ∧ _ ∧ Ex w _ ∧ Ex w1 _›).2.2.2.2.2.1))).mono ?_; rintro e w2 ⟨rfl, hx1⟩)))
      have hE := (‹_ ∧ _ ∧ _ ∧ _ ∧ _ ∧ Ex w _ ∧ Ex w1 _›).2.2.2.2.2.2
      go_wp2_with fail
      go_roundw
      case rel => exact ⟨i + 1, by omega, by omega, by go_num, by rw [HS.out], hE⟩
      case measure => simp [intOf]; omega
    · have HR := hid_ (HEN.out (by omega))
      have hc : ¬ i < l.length ∨ (i < l.length ∧ ¬ i < k.length) := by omega
      clear hlt
      generalize kdot p m ml (l.take i) (k.take i) 0 = sd at *
      rcases hc with hc | ⟨hc1, hc2⟩
      · have hd : decide ((i : Int) < (l.length : Int)) = false := by simpa using hc
        go_wp2_with fail
        go_ret
        exact ⟨ret_int (by rw [HR.out]), e0.trans hx⟩
      · go_wp2_with fail
        go_ret
        exact ⟨ret_int (by rw [HR.out]), e0.trans hx⟩
end
end Go.Proofs.Ytpphaicbdeeacaa
