/- Walks of the reference of the package field: Add, Neg. -/
import Derived.Test.YtpphaicbdeeacaaFldS
namespace Go.Proofs.Ytpphaicbdeeacaa
set_option linter.unusedVariables false
set_option linter.unusedSimpArgs false
open Go.RowKit

section
variable {p m : Nat} {ml : List Int} {mv : Value}

theorem il_mem {n : Nat} {f : Nat → Int} {z : Int} (h : z ∈ il n f) : ∃ j, j < n ∧ f j = z := by
  obtain ⟨j, hj, rfl⟩ := List.mem_map.1 h
  exact ⟨j, List.mem_range.1 hj, rfl⟩

theorem upd_step {α : Type} (A B : Nat → α) (i : Nat) : ∀ j, upd (fun j => if j < i then A j else B j) i (A i) j = if j < i + 1 then A j else B j := fun j => by
  unfold upd
  by_cases h : j = i
  · subst h; rw [if_pos rfl, if_pos (by omega)]
  · rw [if_neg h]
    dsimp only
    by_cases h2 : j < i
    · rw [if_pos h2, if_pos (by omega)]
    · rw [if_neg h2, if_neg (by omega)]

set_option maxRecDepth 100000 in
set_option maxHeartbeats 1000000 in
theorem rAdd_any (w : World) (hf : FSh p m ml) (hmv : ISl w mv ml) (x y : Int) :
    Calls Try.prog 79 #[.agg #[.int .i64 p, .int .i64 m, mv], .int .i64 x, .int .i64 y] w fun r w' => r = .returned (.int .i64 (kadd p m (kin (p ^ m) x) (kin (p ^ m) y) : Nat)) ∧ Ex w w' := by
  obtain ⟨d0, d1, d2, e0, hsz⟩ := box_facts w p m mv
  have HDX := hid_ (fun w => rDigits_any (mv := mv) w hf x)
  have HDY := hid_ (fun w => rDigits_any (mv := mv) w hf y)
  have HVL := hid_ (fun w l v h1 h2 h3 => rValue_any (mv := mv) w hf l v h1 h2 h3)
  have p2 := hf.p2
  have m8 := hf.m8
  have p256 := hf.p256
  have hq := hf.q
  have HK := hid_ (kadd_cod (show 1 ≤ p by omega) m (kin (p ^ m) x) (kin (p ^ m) y))
  generalize kin (p ^ m) x = z at *
  generalize kin (p ^ m) y = t at *
  have HXR := hid_ (dig_rng (show 1 ≤ p by omega) m z)
  have HYR := hid_ (dig_rng (show 1 ≤ p by omega) m t)
  have HQ := hid_ hq
  clear hf hmv hq
  go_enter Try.func79, Try.ntmps79
  go_wp2_with fail
  generalize w.alloc (.cells #[.int .i64 p, .int .i64 m, mv] 24) = w1 at *
  refine (HDX.out _).mono ?_
  rintro e w2 ⟨v, rfl, ⟨g, rfl, hg⟩, hx2⟩
  have r0 := hx2.cell d0
  have r1 := hx2.cell d1
  have r2 := hx2.cell d2
  go_wp2_with fail
  refine (HDY.out _).mono ?_
  rintro e w3 ⟨v, rfl, ⟨k, rfl, hk⟩, hx3⟩
  have hgk : g ≠ k := by
    have := hg.lt.2
    have := hk.lt.1
    omega
  have HGA := hid_ (show Own w3 w1.heap.size 3 g m (iv fun j => if j < 0 then (dig p m z j + dig p m t j) % (p : Int) else dig p m z j) from (hg.ex hx3).icongr fun j _ => by simp)
  have HGB := hid_ (hk.mono (show w1.heap.size ≤ w2.heap.size from hx2.size))
  have hx13 := hx2.trans hx3
  have HE := hid_ e0
  have HS := hid_ (e0.size)
  have s0 := hx13.cell d0
  have s1 := hx13.cell d1
  have s2 := hx13.cell d2
  clear hg hk hx2 hx3 r0 r1 r2 e0 hsz
  go_wp2_with fail
  clear s0 s1 s2
  go_loopw [9] (fun i' wr => ∃ i : Nat, i ≤ m ∧ i' = .int .i64 i ∧ Hid (Own wr w1.heap.size 3 g m (iv fun j => if j < i then (dig p m z j + dig p m t j) % (p : Int) else dig p m z j)) ∧ Hid (Own wr w1.heap.size 3 k m (iv (dig p m t))) ∧ Ex w1 wr) (fun i' _ => m - (intOf i').toNat)
  case atStart => exact ⟨0, by omega, rfl, HGA, HGB, hx13⟩
  case round =>
    clear HGA HGB hx13
    obtain ⟨i, hi, rfl, hga, hgb, hx⟩ := hrel
    have c0 := hx.cell d0
    have c1 := hx.cell d1
    have c2 := hx.cell d2
    by_cases hlt : i < m
    · have ca : wr.cell? ⟨g, i, none⟩ = some (.int .i64 (dig p m z i)) := by rw [hga.out.cell hlt]; unfold iv; simp
      have cb : wr.cell? ⟨k, i, none⟩ = some (.int .i64 (dig p m t i)) := hgb.out.cell hlt
      have fa := hga.out.frz i
      obtain ⟨z1, z2⟩ := HXR.out i
      obtain ⟨t1, t2⟩ := HYR.out i
      have HSA := hid_ (hga.out.set i (.int .i64 ((dig p m z i + dig p m t i) % (p : Int))))
      have HSB := hid_ (hgb.out.other (a := ⟨g, i, none⟩) hgk.symm (.int .i64 ((dig p m z i + dig p m t i) % (p : Int))))
      have HSX := hid_ (hga.out.exSet (Nat.le_refl _) hx i (.int .i64 ((dig p m z i + dig p m t i) % (p : Int))))
      have HEQ := hid_ (upd_step (fun j => (dig p m z j + dig p m t j) % (p : Int)) (fun j => dig p m z j) i)
      have HGO : Hid (Own (wr.setCell ⟨g, i, none⟩ (.int .i64 ((dig p m z i + dig p m t i) % (p : Int)))) w1.heap.size 3 g m (iv fun j => if j < i + 1 then (dig p m z j + dig p m t j) % (p : Int) else dig p m z j)) := hid_ (by
        have := HSA.out
        rw [iv_upd] at this
        exact this.icongr fun j _ => HEQ.out j)
      clear HSA HEQ hga hgb
      generalize dig p m z i = u at *
      generalize dig p m t i = v at *
      have i1 : IntKind.i64.wrap (u + v) = u + v := IntWalk.i64_in _ (by omega)
      have i2 : (u + v).tmod (p : Int) = (u + v) % (p : Int) := Int.tmod_eq_emod_of_nonneg (by omega)
      have p0 : ¬ p = 0 := by omega
      go_wp2_with fail
      go_still_tail 15, (by kernel_rfl)
      change wpList _ _ _ _ _ wr.drew
      clear i1 i2
      go_wp2_with fail
      go_roundw
      case rel => exact ⟨i + 1, by omega, by go_num, hid_ HGO.out.drew, hid_ HSB.out.drew, HSX.out.drew⟩
      case measure => simp [intOf]; omega
    · obtain rfl : i = m := by omega
      have hown : Own wr w1.heap.size 3 g i (iv fun j => (dig p i z j + dig p i t j) % (p : Int)) := hga.out.icongr fun j hj => if_pos hj
      have HL := hid_ hown.isl
      have HB := hid_ (show ∀ a ∈ il i (fun j => (dig p i z j + dig p i t j) % (p : Int)), 0 ≤ a ∧ a < p from fun a ha => by
        obtain ⟨j, _, rfl⟩ := il_mem ha
        exact ⟨Int.emod_nonneg _ (by omega), Int.emod_lt_of_pos _ (by omega)⟩)
      have HQ2 := hid_ (show p ^ (il i (fun j => (dig p i z j + dig p i t j) % (p : Int))).length ≤ 65536 by rw [il_length]; have := HQ.out; omega)
      have HR := hid_ (show vl p (il i (fun j => (dig p i z j + dig p i t j) % (p : Int))) = ((kadd p i z t : Nat) : Int) by rw [vl_il, HK.out])
      clear hown hga hgb
      go_wp2_with fail
      refine (HVL.out _ _ _ HL.out HB.out HQ2.out).mono ?_
      rintro e w4 ⟨rfl, hx4⟩
      go_wp2_with fail
      go_ret
      exact ⟨ret_int HR.out, (HE.out.trans hx).trans hx4⟩

set_option maxRecDepth 100000 in
set_option maxHeartbeats 1000000 in
theorem rNeg_any (w : World) (hf : FSh p m ml) (x : Int) :
    Calls Try.prog 74 #[.agg #[.int .i64 p, .int .i64 m, mv], .int .i64 x] w fun r w' => r = .returned (.int .i64 (kneg p m (kin (p ^ m) x) : Nat)) ∧ Ex w w' := by
  obtain ⟨d0, d1, d2, e0, hsz⟩ := box_facts w p m mv
  have HDX := hid_ (fun w => rDigits_any (mv := mv) w hf x)
  have HVL := hid_ (fun w l v h1 h2 h3 => rValue_any (mv := mv) w hf l v h1 h2 h3)
  have p2 := hf.p2
  have m8 := hf.m8
  have p256 := hf.p256
  have hq := hf.q
  have HK := hid_ (kneg_cod (show 1 ≤ p by omega) m (kin (p ^ m) x))
  generalize kin (p ^ m) x = z at *
  obtain ⟨F, hF⟩ : ∃ F : Nat → Int, (fun j => ((p : Int) - dig p m z j) % (p : Int)) = F := ⟨_, rfl⟩
  have HFJ := hid_ (fun j => congrFun hF j)
  have HFR := hid_ (show ∀ j, 0 ≤ F j ∧ F j < p from fun j => by rw [← hF]; exact ⟨Int.emod_nonneg _ (by omega), Int.emod_lt_of_pos _ (by omega)⟩)
  rw [hF] at HK
  clear hF
  have HXR := hid_ (dig_rng (show 1 ≤ p by omega) m z)
  have HQ := hid_ hq
  clear hf hq
  go_enter Try.func74, Try.ntmps74
  go_wp2_with fail
  generalize w.alloc (.cells #[.int .i64 p, .int .i64 m, mv] 24) = w1 at *
  refine (HDX.out _).mono ?_
  rintro e w2 ⟨v, rfl, ⟨g, rfl, hg⟩, hx2⟩
  have HGA := hid_ (show Own w2 w1.heap.size 3 g m (iv fun j => if j < 0 then F j else dig p m z j) from hg.icongr fun j _ => by simp)
  have HE := hid_ e0
  have s0 := hx2.cell d0
  have s1 := hx2.cell d1
  have s2 := hx2.cell d2
  clear hg e0 hsz
  go_wp2_with fail
  clear s0 s1 s2
  go_loopw [6] (fun i' wr => ∃ i : Nat, i ≤ m ∧ i' = .int .i64 i ∧ Hid (Own wr w1.heap.size 3 g m (iv fun j => if j < i then F j else dig p m z j)) ∧ Ex w1 wr) (fun i' _ => m - (intOf i').toNat)
  case atStart => exact ⟨0, by omega, rfl, HGA, hx2⟩
  case round =>
    clear HGA hx2
    obtain ⟨i, hi, rfl, hga, hx⟩ := hrel
    have c0 := hx.cell d0
    have c1 := hx.cell d1
    have c2 := hx.cell d2
    by_cases hlt : i < m
    · have ca : wr.cell? ⟨g, i, none⟩ = some (.int .i64 (dig p m z i)) := by rw [hga.out.cell hlt]; unfold iv; simp
      have fa := hga.out.frz i
      obtain ⟨z1, z2⟩ := HXR.out i
      have HSA := hid_ (hga.out.set i (.int .i64 (F i)))
      have HSX := hid_ (hga.out.exSet (Nat.le_refl _) hx i (.int .i64 (F i)))
      have HEQ := hid_ (upd_step F (fun j => dig p m z j) i)
      have HGO : Hid (Own (wr.setCell ⟨g, i, none⟩ (.int .i64 (F i))) w1.heap.size 3 g m (iv fun j => if j < i + 1 then F j else dig p m z j)) := hid_ (by
        have := HSA.out
        rw [iv_upd] at this
        exact this.icongr fun j _ => HEQ.out j)
      clear HSA HEQ hga
      have i3 : ((p : Int) - dig p m z i) % (p : Int) = F i := HFJ.out i
      have HI3 := hid_ i3
      clear i3
      generalize dig p m z i = u at *
      have i1 : IntKind.i64.wrap ((p : Int) - u) = (p : Int) - u := IntWalk.i64_in _ (by omega)
      have i2 : ((p : Int) - u).tmod (p : Int) = F i := by rw [Int.tmod_eq_emod_of_nonneg (by omega)]; exact HI3.out
      have p0 : ¬ p = 0 := by omega
      go_wp2_with fail
      go_still_tail 13, (by kernel_rfl)
      change wpList _ _ _ _ _ wr.drew
      clear i1 i2
      go_wp2_with fail
      go_roundw
      case rel => exact ⟨i + 1, by omega, by go_num, hid_ HGO.out.drew, HSX.out.drew⟩
      case measure => simp [intOf]; omega
    · obtain rfl : i = m := by omega
      have hown : Own wr w1.heap.size 3 g i (iv F) := hga.out.icongr fun j hj => if_pos hj
      have HL := hid_ hown.isl
      have HB := hid_ (show ∀ a ∈ il i F, 0 ≤ a ∧ a < p from fun a ha => by
        obtain ⟨j, _, rfl⟩ := il_mem ha
        exact HFR.out j)
      have HQ2 := hid_ (show p ^ (il i F).length ≤ 65536 by rw [il_length]; have := HQ.out; omega)
      have HR := hid_ (show vl p (il i F) = ((kneg p i z : Nat) : Int) by rw [vl_il, HK.out])
      clear hown hga
      go_wp2_with fail
      refine (HVL.out _ _ _ HL.out HB.out HQ2.out).mono ?_
      rintro e w4 ⟨rfl, hx4⟩
      go_wp2_with fail
      go_ret
      exact ⟨ret_int HR.out, (HE.out.trans hx).trans hx4⟩
end
end Go.Proofs.Ytpphaicbdeeacaa
