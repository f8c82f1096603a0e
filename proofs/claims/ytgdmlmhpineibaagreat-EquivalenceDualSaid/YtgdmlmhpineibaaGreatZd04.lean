/- Walks of the package field: multiply. -/
import Derived.Deep.RegionHeld3
import Derived.Laws.CopyOwn
import Derived.Deep.RegionLaw
import Derived.StillTailTactics
import Derived.Test.YtgdmlmhpineibaaGreatZd03
namespace Go.Proofs.YtgdmlmhpineibaaGreat
set_option linter.unusedVariables false
set_option linter.unusedSimpArgs false
open Go.RowKit

/-- The shape of a field's description. -/
structure FSh (p m : Nat) (ml : List Int) : Prop where
  p2 : 2 ≤ p
  m1 : 1 ≤ m
  m8 : m ≤ 8
  q : p ^ m ≤ 256
  len : ml.length = if m = 1 then 0 else m
  rng : ∀ x ∈ ml, 0 ≤ x ∧ x < p
/-- The low coefficients. -/
def lw (ml : List Int) : Vc := fun j => ml.getD j 0
theorem FSh.p256 {p m : Nat} {ml : List Int} (h : FSh p m ml) : p ≤ 256 := by
  have h1 : p ^ 1 ≤ p ^ m := Nat.pow_le_pow_right (by have := h.p2; omega) h.m1
  have := h.q
  rw [Nat.pow_one] at h1
  omega
/-- The digits behind the rounds down to k. -/
def hst (p m : Nat) (low x y : Vc) (k : Nat) : Vc := fun j => hor m low x (m - k) (fun t => y (k + t)) j % (p : Int)
theorem hst_top (p m : Nat) (low x y : Vc) (j : Nat) : hst p m low x y m j = 0 := by
  unfold hst; rw [Nat.sub_self]; simp [hor]
theorem hst_rng {p : Nat} (hp : 1 ≤ p) (m : Nat) (low x y : Vc) (k j : Nat) : 0 ≤ hst p m low x y k j ∧ hst p m low x y k j < p :=
  ⟨Int.emod_nonneg _ (by omega), Int.emod_lt_of_pos _ (by omega)⟩
theorem hst_step {p m : Nat} (low x y : Vc) {k j : Nat} (hk : k < m) (hj : j < m) :
    hst p m low x y k j = ((if j = 0 then 0 else hst p m low x y (k + 1) (j - 1)) + ((p : Int) - hst p m low x y (k + 1) (m - 1)) * low j + y k * x j) % (p : Int) := by
  unfold hst
  rw [show m - k = (m - (k + 1)) + 1 by omega, hor]
  have e : (fun t => y (k + (t + 1))) = fun t => y (k + 1 + t) := by funext t; rw [show k + (t + 1) = k + 1 + t by omega]
  rw [e]
  generalize hor m low x (m - (k + 1)) (fun t => y (k + 1 + t)) = H
  unfold sX
  show ((if j < m then (if j = 0 then 0 else H (j - 1)) - H (m - 1) * low j else 0) + y (k + 0) * x j) % (p : Int) = _
  rw [if_pos hj, Nat.add_zero]
  refine eqm_add ?_ rfl
  have h1 : ((if j = 0 then 0 else H (j - 1)) - H (m - 1) * low j) % (p : Int) = ((if j = 0 then 0 else H (j - 1)) + ((p : Int) - H (m - 1)) * low j) % (p : Int) := by
    refine eqm_iff.2 ⟨- low j, ?_⟩
    generalize (if j = 0 then 0 else H (j - 1)) = z
    grind
  rw [h1]
  refine eqm_add ?_ (eqm_mul (eqm_sub rfl (Int.emod_emod_of_dvd _ (Int.dvd_refl _)).symm) rfl)
  split
  · rfl
  · exact (Int.emod_emod_of_dvd _ (Int.dvd_refl _)).symm
theorem hst_end {p : Nat} (hp : 1 ≤ p) (m : Nat) (low : Vc) (x y : Nat) : cod p m (hst p m low (dig p m x) (dig p m y) 0) = ((kmul p m low x y : Nat) : Int) := by
  unfold kmul rep mulV
  rw [Int.toNat_of_nonneg (cod_rng (fun j => ⟨Int.emod_nonneg _ (by omega), Int.emod_lt_of_pos _ (by omega)⟩) m).1]
  refine cod_congr m fun j _ => ?_
  unfold hst
  rw [Nat.sub_zero, hor_ap]
  simp only [Nat.zero_add]
/-- The shifted digits. -/
def shf (o : Nat → Int) : Nat → Int := fun j => if j = 0 then 0 else o (j - 1)
theorem splice_shift (n : Nat) (o : Nat → Int) : splice (vs (n + 1) (iv o)) 1 (vs n (iv o)) = vs (n + 1) (iv fun j => if j = 0 then o 0 else o (j - 1)) := by
  unfold splice
  apply List.ext_getElem?
  intro j
  rcases j with _ | j
  · simp [vs, iv, List.range_succ_eq_map]
  · by_cases hj : j < n
    · simp [vs, iv, hj, List.getElem?_append]
    · simp [vs, iv, hj, List.getElem?_append]; omega
set_option maxRecDepth 100000 in
set_option maxHeartbeats 4000000 in
theorem multiply_any (p m x y : Nat) (ml : List Int) (mv : Value) (w : World) (hf : FSh p m ml) (hmv : ISl w mv ml) (hx : x < p ^ m) (hy : y < p ^ m) :
    Calls Tryz.prog 168 #[.agg #[.int .i64 p, .int .i64 m, mv], .int .i64 x, .int .i64 y] w fun r w' => r = .returned (.int .i64 (kmul p m (lw ml) x y)) ∧ Ex w w' := by
  obtain ⟨p2, m1, m8, q, len, rng⟩ := hf
  have p256 := FSh.p256 ⟨p2, m1, m8, q, len, rng⟩
  obtain ⟨xb, hxb⟩ : ∃ xb, w.heap.size = xb := ⟨_, rfl⟩
  have HX := hid_ hxb
  go_enter Tryz.func168, Tryz.ntmps168
  go_wp2_with fail
  try simp only [hxb]
  have d0 : (w.alloc (.cells #[.int .i64 p, .int .i64 m, mv] 24)).cell? ⟨xb, 0, none⟩ = some (.int .i64 p) := by rw [← hxb]; simp
  have d1 : (w.alloc (.cells #[.int .i64 p, .int .i64 m, mv] 24)).cell? ⟨xb, 1, none⟩ = some (.int .i64 m) := by rw [← hxb]; simp
  have d2 : (w.alloc (.cells #[.int .i64 p, .int .i64 m, mv] 24)).cell? ⟨xb, 2, none⟩ = some mv := by rw [← hxb]; simp
  have e0 : Ex w (w.alloc (.cells #[.int .i64 p, .int .i64 m, mv] 24)) := (Ex.refl _).alloc _
  generalize w.alloc (.cells #[.int .i64 p, .int .i64 m, mv] 24) = w1 at *
  clear hxb
  go_region_held3 (fun w' => w'.cell? ⟨xb, 0, none⟩ = some (.int .i64 p) ∧ w'.cell? ⟨xb, 1, none⟩ = some (.int .i64 m) ∧ w'.cell? ⟨xb, 2, none⟩ = some mv ∧ Ex w w')
    (first | exact ⟨d0, d1, d2, e0.drew⟩ | exact ⟨hx1.cell d0, hx1.cell d1, hx1.cell d2, e0.drew.trans hx1⟩ | (obtain ⟨k0, k1, k2, k3⟩ := ‹_ ∧ _ ∧ _ ∧ Ex w _›; exact ⟨hx1.cell k0, hx1.cell k1, hx1.cell k2, k3.trans hx1⟩))
    ((go_at_call 183; refine (digitsOf_any _ _ _ _ (by omega) (by omega) (by omega) (by omega)).mono ?_; rintro e w2 ⟨v, rfl, hs, hx1⟩))
  have hsa := ‹ISl _ _ (il m (dig p m x))›.ex hx1
  have hsb := hs
  obtain ⟨k0, k1, k2, k3⟩ := ‹_ ∧ _ ∧ _ ∧ Ex w _›
  clear d0 d1 d2 e0 hx1
  obtain ⟨aa, ca, rfl, a1, a2, a3⟩ := hsa.open
  obtain ⟨ab, cb, rfl, b1, b2, b3⟩ := hsb.open
  have hmv2 := hmv.ex k3
  obtain ⟨am, cm, rfl, c1, c2, c3⟩ := hmv2.open
  simp only [il_length] at *
  obtain ⟨aab, aao, rfl, a4⟩ := a3 (by omega)
  obtain ⟨abb, abo, rfl, b4⟩ := b3 (by omega)
  have A4 := hid_ (fun j (hj : j < m) => a4 j _ (il_get hj _))
  have B4 := hid_ (fun j (hj : j < m) => b4 j _ (il_get hj _))
  have C3 := hid_ c3
  have LEN := hid_ len
  unfold maxLen at a2 b2 c2
  have HLR := hid_ (show ∀ j, 0 ≤ lw ml j ∧ lw ml j < p from fun j => by
    unfold lw
    rw [List.getD_eq_getElem?_getD]
    rcases h : ml[j]? with _ | z
    · simp; omega
    · exact rng z (List.mem_of_getElem? h))
  have HXR := hid_ (dig_rng (show 1 ≤ p by omega) m x)
  have HYR := hid_ (dig_rng (show 1 ≤ p by omega) m y)
  clear a3 b3 c3 a4 b4 hsa hsb hmv2 hmv rng len
  go_wp2_with (at_make; refine wpList_make_arr _ rfl _ _ 22 rfl 3 (.int .i64 0) 8 Tryz.underlying22 infoInt rfl _ m rfl rfl rfl (by omega) (by unfold maxLen; omega) ?_)
  intro w4 hown hx4
  obtain ⟨g, hg⟩ : ∃ g, w2.heap.size = g := ⟨_, rfl⟩
  have hown1 : Own w4 g 3 g m (iv (hst p m (lw ml) (dig p m x) (dig p m y) m)) := by
    rw [hg] at hown
    exact hown.congr fun j _ => by unfold iv; rw [hst_top]
  have HG := hid_ hg
  have HEX := hid_ (fun (wr : World) (h : Own wr g 3 g m (iv (hst p m (lw ml) (dig p m x) (dig p m y) 0))) => h.isl)
  have HEN := hid_ (hst_end (show 1 ≤ p by omega) m (lw ml) x y)
  have HST := hid_ (fun k j (hk : k < m) (hj : j < m) => hst_step (p := p) (lw ml) (dig p m x) (dig p m y) hk hj)
  have HRG := hid_ (fun k j => hst_rng (show 1 ≤ p by omega) m (lw ml) (dig p m x) (dig p m y) k j)
  have hgs : xb < g := by rw [← hg]; exact World.block_lt_of_cell? _ _ k0
  simp only [hg]
  clear hown hg
  generalize hst p m (lw ml) (dig p m x) (dig p m y) = H at *
  have q0 := hx4.cell k0
  have q1 := hx4.cell k1
  go_wp2_with fail
  clear q0 q1
  go_loopw [10] (fun i' wr => ∃ k : Nat, k ≤ m ∧ i' = .int .i64 ((k : Int) - 1) ∧ Own wr g 3 g m (iv (H k)) ∧ Ex w2 wr) (fun i' _ => (intOf i' + 1).toNat)
  case atStart => exact ⟨m, by omega, rfl, hown1, hx4⟩
  case round =>
    clear hown1 hx4
    obtain ⟨k, hk, rfl, hown, hxr⟩ := hrel
    have r0 := hxr.cell k0
    have r1 := hxr.cell k1
    have r2 := hxr.cell k2
    rcases k with _ | k
    · have hsl := HEX.out _ hown
      have HQ := hid_ hsl
      have HRL := hid_ (show ∀ z ∈ il m (H 0), 0 ≤ z ∧ z < p from fun z hz => by
        obtain ⟨j, _, rfl⟩ := List.mem_map.1 hz
        exact HRG.out 0 j)
      have HQ2 := hid_ (show p ^ (il m (H 0)).length ≤ 65536 by rw [il_length]; omega)
      have HVL := hid_ (show vl p (il m (H 0)) = ((kmul p m (lw ml) x y : Nat) : Int) by rw [vl_il]; exact HEN.out)
      clear hsl hown
      go_wp2_with fail
      refine (valueOf_any _ _ _ _ HQ.out (by omega) (by omega) HRL.out HQ2.out).mono ?_
      rintro e w9 ⟨rfl, rfl⟩
      go_wp2_with fail
      go_ret
      exact ⟨ret_int HVL.out, k3.trans hxr⟩
    · have hd0 := hown.cell (show m - 1 < m by omega)
      have hd1 : wr.cell? ⟨g, m - 1, none⟩ = some (.int .i64 (H (k + 1) (m - 1))) := hd0
      have e : (((k + 1 : Nat)) : Int) - 1 = k := by omega
      rw [e]
      clear hd0 e
      have hxg : Below g w2 wr := by rw [← HG.out]; exact hxr
      have HN1 := hid_ (show m = (m - 1) + 1 by omega)
      have HO := hid_ hown
      have HXR2 := hid_ hxr
      have HXG := hid_ hxg
      clear hown hxr hxg
      go_wp2_with fail
      have i1 : (1 : Int) ≤ (m : Int) := by omega
      have i3 : (0 : Int) ≤ (m : Int) - 1 := by omega
      have i4 : (m : Int) - 1 ≤ (m : Int) := by omega
      have i5 : ((m : Int) - 1).toNat = m - 1 := by omega
      have i7 : IntKind.i64.wrap ((m : Int) - 1) = (m : Int) - 1 := IntWalk.i64_in _ (by omega)
      have HP := hid_ (show wr.drew.heap[g]? = some (.cells (vs m (iv (H (k + 1)))).toArray 3 (0, 0)) from HO.out.drew.heap)
      have HQ := hid_ (show ∀ (j : Nat) (v : Value), (vs (m - 1) (iv (H (k + 1))))[j]? = some v → wr.drew.cell? ((⟨g, 0, none⟩ : Addr).add j) = some v from fun j v h => by
        have hj : j < m - 1 := by have := (List.getElem?_eq_some_iff.1 h).1; rwa [vs_length] at this
        rw [vs_get hj] at h
        injection h with h
        have h2 : (⟨g, 0, none⟩ : Addr).add j = ⟨g, j, none⟩ := by unfold Addr.add; split <;> simp_all
        rw [h2, ← h]
        exact HO.out.drew.cell (by omega))
      have HN := hid_ (show (vs (m - 1) (iv (H (k + 1)))).length = Nat.min (m - 1) (m - 1) by rw [vs_length]; exact (Nat.min_self _).symm)
      have HNE := hid_ (show 0 < (vs (m - 1) (iv (H (k + 1)))).length → ¬ m = 1 by rw [vs_length]; omega)
      have HF := hid_ (show 1 + (vs (m - 1) (iv (H (k + 1)))).length ≤ (vs m (iv (H (k + 1)))).length by rw [vs_length, vs_length]; omega)
      have HO1 := hid_ (show ∀ v ∈ vs (m - 1) (iv (H (k + 1))), v.oneCell' = true from fun v h => by
        obtain ⟨j, _, rfl⟩ := List.mem_map.1 h; rfl)
      have HBL := hid_ (show Below g w2 wr.drew from Below.drew HXG.out)
      go_region_law ((go_loud (refine step_copy_splice (by rfl) _ _ _ _ (by rfl) 3 Tryz.underlying22 (by kernel_rfl) _ _ _ _ _ _ (by rfl) (by rfl) g 1 (vs m (iv (H (k + 1)))) 3 HP.out (vs (m - 1) (iv (H (k + 1)))) HN.out (fun h => ⟨if_neg (HNE.out h), _, rfl, HQ.out⟩) HF.out HO1.out g w2 HBL.out (Nat.le_refl _) ?_); intro w5 hw5 hb5))
      all_goals
        generalize (if m = 1 then some (⟨g, 0, none⟩ : Addr) else some ⟨g, 1, none⟩) = sd
        clear i1 i3 i4 i5 i7 HP HQ HF HO1 HBL HNE HN HXG
        have HO5 : Hid (Own w5 g 3 g m (iv fun j => if j = 0 then H (k + 1) 0 else H (k + 1) (j - 1))) := by
          apply hid_
          refine Own.of_heap ?_ (Nat.le_refl _) (by unfold maxLen; omega)
          have h := hw5.out
          rw [HN1.out, Nat.add_sub_cancel, splice_shift] at h
          rw [HN1.out]; exact h
        have HX5 : Hid (Ex w2 w5) := hid_ (by rw [← HG.out] at hb5; exact hb5)
        clear hw5 hb5
        have HO6 := hid_ (HO5.out.set 0 (.int .i64 0))
        have HX6 := hid_ (HO5.out.exSet (by rw [HG.out]; exact Nat.le_refl _) HX5.out 0 (.int .i64 0))
        have f5 := HO5.out.frz 0
        have m0 : 0 < m := by omega
        have m0' : (0 : Int) < (m : Int) := by omega
        have c5 := HO5.out.cell (show 0 < m by omega)
        clear r0 r1 r2 HO HXR2 hd1
        go_wp2_with fail
        generalize w5.setCell ⟨g, 0, none⟩ (.int .i64 0) = w6 at *
        have HO7 : Hid (Own w6 g 3 g m (iv fun t => if t < 0 then H k t else shf (H (k + 1)) t)) := by
          apply hid_
          have := HO6.out
          rw [iv_upd] at this
          refine this.icongr fun j hj => ?_
          unfold upd shf
          rw [if_neg (show ¬ j < 0 by omega)]
          by_cases h : j = 0
          · rw [if_pos h, if_pos h]
          · rw [if_neg h, if_neg h]; exact if_neg h
        clear HO5 HX5 HO6 f5 c5
        go_loopw [12, 13, 54] (fun _ _ j' wz => ∃ j : Nat, j ≤ m ∧ j' = .int .i64 j ∧ Hid (Own wz g 3 g m (iv fun t => if t < j then H k t else shf (H (k + 1)) t)) ∧ Ex w2 wz) (fun _ _ j' _ => m - (intOf j').toNat)
        case atStart => exact ⟨0, by omega, rfl, HO7, HX6.out⟩
        case round =>
          clear HO7 HX6
          obtain ⟨j, hj, rfl, HO, hxz⟩ := hrel
          have r0 := hxz.cell k0
          have r1 := hxz.cell k1
          have r2 := hxz.cell k2
          by_cases hlt : j < m
          · have hoj : wr.cell? ⟨g, j, none⟩ = some (.int .i64 (shf (H (k + 1)) j)) := by
              have h := HO.out.cell hlt
              rw [h]; unfold iv; simp
            have hfj := HO.out.frz j
            have ha := hxz.cell (A4.out j hlt)
            have hb := hxz.cell (B4.out k (by omega))
            have hst := HST.out k j (by omega) hlt
            have HS : Hid ((shf (H (k + 1)) j + ((p : Int) - H (k + 1) (m - 1)) * lw ml j + dig p m y k * dig p m x j) % (p : Int) = H k j) := hid_ (by rw [hst]; rfl)
            obtain ⟨t1, t2⟩ := HRG.out (k + 1) (m - 1)
            obtain ⟨l1, l2⟩ := HLR.out j
            obtain ⟨u1, u2⟩ := HXR.out j
            obtain ⟨v1, v2⟩ := HYR.out k
            have hsh : 0 ≤ shf (H (k + 1)) j ∧ shf (H (k + 1)) j < p := by
              unfold shf; split
              · omega
              · exact HRG.out _ _
            obtain ⟨s1, s2⟩ := hsh
            have HO8 := hid_ (fun z => HO.out.set j (.int .i64 z))
            have HX8 := hid_ (fun z => HO.out.exSet (by rw [HG.out]; exact Nat.le_refl _) hxz j (.int .i64 z))
            have HLW := hid_ (show ¬ 1 < m → lw ml j = 0 from fun h => by
              unfold lw
              have hl := LEN.out
              rw [if_pos (by omega)] at hl
              rw [List.eq_nil_of_length_eq_zero hl]; rfl)
            have HLM := hid_ (show 1 < m → ∃ b o, am = some ⟨b, o, none⟩ ∧ wr.cell? ⟨b, o + j, none⟩ = some (.int .i64 (lw ml j)) ∧ j < ml.length from fun h => by
              have hl := LEN.out
              rw [if_neg (by omega)] at hl
              obtain ⟨b, o, e, hc⟩ := C3.out (by omega)
              refine ⟨b, o, e, hxz.cell (hc j _ ?_), by omega⟩
              unfold lw
              rw [List.getD_eq_getElem?_getD, List.getElem?_eq_getElem (by omega)]; rfl)
            generalize shf (H (k + 1)) j = sj at *
            generalize H (k + 1) (m - 1) = tp at *
            generalize lw ml j = lj at *
            generalize dig p m x j = xj at *
            generalize dig p m y k = yk at *
            have p1 : 0 ≤ ((p : Int) - tp) * lj := Int.mul_nonneg (by omega) l1
            have p3 : ((p : Int) - tp) * lj ≤ 65536 := by
              have := Int.mul_le_mul (show (p : Int) - tp ≤ 256 by omega) (show lj ≤ 256 by omega) l1 (by omega)
              omega
            have p4 : 0 ≤ yk * xj := Int.mul_nonneg v1 u1
            have p5 : yk * xj ≤ 65536 := by
              have := Int.mul_le_mul (show yk ≤ 256 by omega) (show xj ≤ 256 by omega) u1 (by omega)
              omega
            have hkm : k < m := by omega
            clear hst hk hgs
            by_cases hm1 : 1 < m
            · obtain ⟨bb, oo, rfl, hcm, hjl⟩ := HLM.out hm1
              clear HLM HLW
              go_wp2_with fail
              have w1 : IntKind.i64.wrap ((p : Int) - tp) = (p : Int) - tp := IntWalk.i64_in _ (by omega)
              have w2' : IntKind.i64.wrap (((p : Int) - tp) * lj) = ((p : Int) - tp) * lj := IntWalk.i64_in _ (by omega)
              have w3 : IntKind.i64.wrap (sj + ((p : Int) - tp) * lj) = sj + ((p : Int) - tp) * lj := IntWalk.i64_in _ (by omega)
              have w4' : IntKind.i64.wrap (yk * xj) = yk * xj := IntWalk.i64_in _ (by omega)
              have w5' : IntKind.i64.wrap (sj + ((p : Int) - tp) * lj + yk * xj) = sj + ((p : Int) - tp) * lj + yk * xj := IntWalk.i64_in _ (by omega)
              have w6 : (sj + ((p : Int) - tp) * lj + yk * xj).tmod (p : Int) = (sj + ((p : Int) - tp) * lj + yk * xj) % (p : Int) := Int.tmod_eq_emod_of_nonneg (by omega)
              have p0 : ¬ p = 0 := by omega
              go_still_tail 27, (by kernel_rfl)
              change wpList _ _ _ _ _ wr.drew
              clear w1 w2' w3 w4' w5' w6
              go_wp2_with fail
              go_roundw
              case rel =>
                refine ⟨j + 1, by omega, by go_num, ?_, (HX8.out _).drew⟩
                have h := (HO8.out ((sj + ((p : Int) - tp) * lj + yk * xj) % (p : Int))).drew
                rw [iv_upd] at h
                refine hid_ (h.icongr fun t ht => ?_)
                unfold upd
                dsimp only
                by_cases h1 : t = j
                · subst h1; rw [if_pos rfl, if_pos (by omega), HS.out]
                · rw [if_neg h1]
                  by_cases h2 : t < j
                  · rw [if_pos h2, if_pos (by omega)]
                  · rw [if_neg h2, if_neg (by omega)]
              case measure => simp [intOf]; omega
            · obtain rfl : lj = 0 := HLW.out hm1
              clear HLM HLW
              have HS2 : Hid ((sj + yk * xj) % (p : Int) = H k j) := hid_ (by have := HS.out; rwa [Int.mul_zero, Int.add_zero] at this)
              clear p1 p3
              go_wp2_with fail
              have w1 : IntKind.i64.wrap ((p : Int) - tp) = (p : Int) - tp := IntWalk.i64_in _ (by omega)
              have w3 : IntKind.i64.wrap sj = sj := IntWalk.i64_in _ (by omega)
              have w4' : IntKind.i64.wrap (yk * xj) = yk * xj := IntWalk.i64_in _ (by omega)
              have w5' : IntKind.i64.wrap (sj + yk * xj) = sj + yk * xj := IntWalk.i64_in _ (by omega)
              have w6 : (sj + yk * xj).tmod (p : Int) = (sj + yk * xj) % (p : Int) := Int.tmod_eq_emod_of_nonneg (by omega)
              have p0 : ¬ p = 0 := by omega
              go_still_tail 27, (by kernel_rfl)
              change wpList _ _ _ _ _ wr.drew
              clear w1 w3 w4' w5' w6
              go_wp2_with fail
              go_roundw
              case rel =>
                refine ⟨j + 1, by omega, by go_num, ?_, (HX8.out _).drew⟩
                have h := (HO8.out ((sj + yk * xj) % (p : Int))).drew
                rw [iv_upd] at h
                refine hid_ (h.icongr fun t ht => ?_)
                unfold upd
                dsimp only
                by_cases h1 : t = j
                · subst h1; rw [if_pos rfl, if_pos (by omega), HS2.out]
                · rw [if_neg h1]
                  by_cases h2 : t < j
                  · rw [if_pos h2, if_pos (by omega)]
                  · rw [if_neg h2, if_neg (by omega)]
              case measure => simp [intOf]; omega
          · obtain rfl : j = m := by omega
            have HOe := HO.out.icongr (h := H k) fun t ht => if_pos ht
            clear HO
            go_wp2_with fail
            go_roundw
            case rel => exact ⟨k, by omega, rfl, HOe, hxz⟩
            case measure => simp [intOf]
end Go.Proofs.YtgdmlmhpineibaaGreat
