/- Walks of the reference's Unit, Then, Back. -/
import Derived.Test.YtgfdhclpffakfaaGreatZa08
namespace Go.Proofs.YtgfdhclpffakfaaGreat
set_option linter.unusedVariables false
set_option linter.unusedSimpArgs false
open Go.RowKit

set_option maxRecDepth 100000 in
set_option maxHeartbeats 1000000 in
theorem rThen_any (w : World) (n : Nat) (f h : Nat → Nat) (u v : Value) (hu : ISl w u (li n f)) (hv : ISl w v (li n h)) (hn : n ≤ 100) (hf : ∀ i, i < n → f i < n) :
    Calls Tryz.prog 63 #[u, v] w fun r w' => ∃ g, r = .returned (.slice (some ⟨g, 0, none⟩) n n) ∧ Own w' w.heap.size 3 g n (iv fun i => (thenP f h i : Int)) ∧ Ex w w' := by
  obtain ⟨ua, uc, rfl, _, u2, u3⟩ := isl_li hu
  obtain ⟨va, vc, rfl, _, v2, v3⟩ := isl_li hv
  unfold maxLen at u2 v2
  have U3 := hid_ u3
  have V3 := hid_ v3
  have HF := hid_ hf
  clear hu hv u3 v3 hf
  go_enter Tryz.func63, Tryz.ntmps63
  go_wp2_with (at_make; refine wpList_make_arr _ rfl _ _ 32 rfl 3 (.int .i64 0) 8 Tryz.underlying32 infoInt rfl _ n rfl rfl rfl (by omega) (by unfold maxLen; omega) ?_)
  intro w3 hown hx3
  obtain ⟨g, hgg⟩ : ∃ g, w.heap.size = g := ⟨_, rfl⟩
  have HO0 := hid_ (show Own w3 g 3 g n (iv fun i => if i < 0 then (thenP f h i : Int) else 0) from by rw [← hgg]; exact hown.icongr fun i _ => rfl)
  have HX0 := hid_ hx3
  have HSZ := hid_ hgg
  rw [hgg] at ⊢
  clear hown hx3 hgg
  go_wp2_with fail
  go_loopw [6] (fun k' wr => ∃ (k : Nat), k ≤ n ∧ k' = .int .i64 k ∧ Hid (Own wr g 3 g n (iv fun i => if i < k then (thenP f h i : Int) else 0)) ∧ Hid (Ex w wr)) (fun k' _ => n - (intOf k').toNat)
  case atStart => exact ⟨0, by omega, rfl, HO0, HX0⟩
  case round =>
    clear HO0 HX0
    obtain ⟨k, hk, rfl, hown, hx⟩ := hrel
    by_cases hkn : k < n
    · obtain ⟨ub, uo, rfl, huc⟩ := U3.out (by omega)
      obtain ⟨vb, vo, rfl, hvc⟩ := V3.out (by omega)
      have hfk := HF.out k hkn
      have c1 := hx.out.cell (huc k hkn)
      have c2 := hx.out.cell (hvc (f k) hfk)
      have c3 := hown.out.cell hkn
      have c4 := hown.out.frz k
      have i1 : (0 : Int) ≤ (k : Int) := by omega
      have i2 : (k : Int) < (n : Int) := by omega
      have i3 : (0 : Int) ≤ (f k : Int) := by omega
      have i4 : (f k : Int) < (n : Int) := by omega
      have HO := hid_ (show Own (wr.setCell ⟨g, k, none⟩ (.int .i64 (h (f k) : Int))) g 3 g n (iv fun i => if i < k + 1 then (thenP f h i : Int) else 0) from by
        refine (hown.out.set k _).congr fun i hi => ?_
        by_cases e : i = k
        · subst e; rw [upd_same]; show _ = Value.int .i64 (if i < i + 1 then (thenP f h i : Int) else 0); rw [if_pos (by omega)]; rfl
        · rw [upd_ne _ _ e]; show Value.int .i64 (if i < k then (thenP f h i : Int) else 0) = Value.int .i64 (if i < k + 1 then (thenP f h i : Int) else 0)
          by_cases h : i < k
          · rw [if_pos h, if_pos (by omega)]
          · rw [if_neg h, if_neg (by omega)])
      have HX := hid_ (hown.out.exSet (a := w) (by have := HSZ.out; omega) hx.out k (.int .i64 (h (f k) : Int)))
      clear huc hvc hown hx
      go_wp2_with fail
      go_roundw
      case rel => exact ⟨k + 1, by omega, by go_num, HO, HX⟩
      case measure => simp [intOf]; omega
    · obtain rfl : k = n := by omega
      have HO := hid_ (show Own wr w.heap.size 3 g k (iv fun i => (thenP f h i : Int)) from by
        rw [HSZ.out]; exact hown.out.icongr fun i hi => if_pos hi)
      clear hown
      go_wp2_with fail
      go_ret
      exact ⟨g, rfl, HO.out, hx.out⟩
set_option maxRecDepth 100000 in
set_option maxHeartbeats 1000000 in
theorem rBack_any (w : World) (n : Nat) (f : Nat → Nat) (u : Value) (hu : ISl w u (li n f)) (hn : n ≤ 100) (hf : IsP n f) :
    Calls Tryz.prog 64 #[u] w fun r w' => ∃ g, r = .returned (.slice (some ⟨g, 0, none⟩) n n) ∧ Own w' w.heap.size 3 g n (iv fun i => (invP n f i : Int)) ∧ Ex w w' := by
  obtain ⟨ua, uc, rfl, _, u2, u3⟩ := isl_li hu
  unfold maxLen at u2
  have U3 := hid_ u3
  have HF := hid_ hf
  clear hu u3 hf
  go_enter Tryz.func64, Tryz.ntmps64
  go_wp2_with (at_make; refine wpList_make_arr _ rfl _ _ 32 rfl 3 (.int .i64 0) 8 Tryz.underlying32 infoInt rfl _ n rfl rfl rfl (by omega) (by unfold maxLen; omega) ?_)
  intro w3 hown hx3
  obtain ⟨g, hgg⟩ : ∃ g, w.heap.size = g := ⟨_, rfl⟩
  have HO0 := hid_ (show Own w3 g 3 g n (iv fun i => if invP n f i < 0 then (invP n f i : Int) else 0) from by rw [← hgg]; exact hown.icongr fun i _ => rfl)
  have HX0 := hid_ hx3
  have HSZ := hid_ hgg
  rw [hgg] at ⊢
  clear hown hx3 hgg
  go_wp2_with fail
  go_loopw [4] (fun k' wr => ∃ (k : Nat), k ≤ n ∧ k' = .int .i64 k ∧ Hid (Own wr g 3 g n (iv fun i => if invP n f i < k then (invP n f i : Int) else 0)) ∧ Hid (Ex w wr)) (fun k' _ => n - (intOf k').toNat)
  case atStart => exact ⟨0, by omega, rfl, HO0, HX0⟩
  case round =>
    clear HO0 HX0
    obtain ⟨k, hk, rfl, hown, hx⟩ := hrel
    by_cases hkn : k < n
    · obtain ⟨ub, uo, rfl, huc⟩ := U3.out (by omega)
      have hfk := HF.out.lt k hkn
      have c1 := hx.out.cell (huc k hkn)
      have c3 := hown.out.cell hfk
      have c4 := hown.out.frz (f k)
      have i1 : (0 : Int) ≤ (k : Int) := by omega
      have i2 : (k : Int) < (n : Int) := by omega
      have i3 : (0 : Int) ≤ (f k : Int) := by omega
      have i4 : (f k : Int) < (n : Int) := by omega
      have HO := hid_ (show Own (wr.setCell ⟨g, f k, none⟩ (.int .i64 (k : Int))) g 3 g n (iv fun i => if invP n f i < k + 1 then (invP n f i : Int) else 0) from by
        refine (hown.out.set (f k) _).congr fun i hi => ?_
        by_cases e : i = f k
        · subst e; rw [upd_same]; show _ = Value.int .i64 (if invP n f (f k) < k + 1 then (invP n f (f k) : Int) else 0); rw [HF.out.inv_l, if_pos (by omega)]
        · rw [upd_ne _ _ e]; show Value.int .i64 (if invP n f i < k then (invP n f i : Int) else 0) = Value.int .i64 (if invP n f i < k + 1 then (invP n f i : Int) else 0)
          have h1 : invP n f i ≠ k := fun h => e (by rw [← h, HF.out.inv_r])
          by_cases h : invP n f i < k
          · rw [if_pos h, if_pos (by omega)]
          · rw [if_neg h, if_neg (by omega)])
      have HX := hid_ (hown.out.exSet (a := w) (by have := HSZ.out; omega) hx.out (f k) (.int .i64 (k : Int)))
      clear huc hown hx
      go_wp2_with fail
      go_roundw
      case rel => exact ⟨k + 1, by omega, by go_num, HO, HX⟩
      case measure => simp [intOf]; omega
    · obtain rfl : k = n := by omega
      have HO := hid_ (show Own wr w.heap.size 3 g k (iv fun i => (invP k f i : Int)) from by
        rw [HSZ.out]; exact hown.out.icongr fun i hi => if_pos (HF.out.inv.lt i hi))
      clear hown
      go_wp2_with fail
      go_ret
      exact ⟨g, rfl, HO.out, hx.out⟩
set_option maxRecDepth 100000 in
set_option maxHeartbeats 1000000 in
theorem rUnit_any (w : World) (n : Nat) (hn : n ≤ 100) :
    Calls Tryz.prog 40 #[.int .i64 n] w fun r w' => ∃ g, r = .returned (.slice (some ⟨g, 0, none⟩) n n) ∧ Own w' w.heap.size 3 g n (iv fun i => (idP i : Int)) ∧ Ex w w' := by
  go_enter Tryz.func40, Tryz.ntmps40
  go_wp2_with (at_make; refine wpList_make_arr _ rfl _ _ 32 rfl 3 (.int .i64 0) 8 Tryz.underlying32 infoInt rfl _ n rfl rfl rfl (by omega) (by unfold maxLen; omega) ?_)
  intro w3 hown hx3
  obtain ⟨g, hgg⟩ : ∃ g, w.heap.size = g := ⟨_, rfl⟩
  have HO0 := hid_ (show Own w3 g 3 g n (iv fun i => if i < 0 then (i : Int) else 0) from by rw [← hgg]; exact hown.icongr fun i _ => rfl)
  have HX0 := hid_ hx3
  have HSZ := hid_ hgg
  rw [hgg] at ⊢
  clear hown hx3 hgg
  go_wp2_with fail
  go_loopw [4] (fun k' wr => ∃ (k : Nat), k ≤ n ∧ k' = .int .i64 k ∧ Hid (Own wr g 3 g n (iv fun i => if i < k then (i : Int) else 0)) ∧ Hid (Ex w wr)) (fun k' _ => n - (intOf k').toNat)
  case atStart => exact ⟨0, by omega, rfl, HO0, HX0⟩
  case round =>
    clear HO0 HX0
    obtain ⟨k, hk, rfl, hown, hx⟩ := hrel
    by_cases hkn : k < n
    · have c3 := hown.out.cell hkn
      have c4 := hown.out.frz k
      have i1 : (0 : Int) ≤ (k : Int) := by omega
      have i2 : (k : Int) < (n : Int) := by omega
      have HO := hid_ (show Own (wr.setCell ⟨g, k, none⟩ (.int .i64 (k : Int))) g 3 g n (iv fun i => if i < k + 1 then (i : Int) else 0) from by
        refine (hown.out.set k _).congr fun i hi => ?_
        by_cases e : i = k
        · subst e; rw [upd_same]; show _ = Value.int .i64 (if i < i + 1 then (i : Int) else 0); rw [if_pos (by omega)]
        · rw [upd_ne _ _ e]; show Value.int .i64 (if i < k then (i : Int) else 0) = Value.int .i64 (if i < k + 1 then (i : Int) else 0)
          by_cases h : i < k
          · rw [if_pos h, if_pos (by omega)]
          · rw [if_neg h, if_neg (by omega)])
      have HX := hid_ (hown.out.exSet (a := w) (by have := HSZ.out; omega) hx.out k (.int .i64 (k : Int)))
      clear hown hx
      go_wp2_with fail
      go_roundw
      case rel => exact ⟨k + 1, by omega, by go_num, HO, HX⟩
      case measure => simp [intOf]; omega
    · obtain rfl : k = n := by omega
      have HO := hid_ (show Own wr w.heap.size 3 g k (iv fun i => (idP i : Int)) from by
        rw [HSZ.out]; exact hown.out.icongr fun i hi => if_pos hi)
      clear hown
      go_wp2_with fail
      go_ret
      exact ⟨g, rfl, HO.out, hx.out⟩
end Go.Proofs.YtgfdhclpffakfaaGreat
