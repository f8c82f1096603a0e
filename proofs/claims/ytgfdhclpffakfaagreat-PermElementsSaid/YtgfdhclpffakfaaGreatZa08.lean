/- Walks of perm.then, inverse, identity; permutations as lists. -/
import Derived.Test.YtgfdhclpffakfaaGreatZa01
import Derived.Test.YtgfdhclpffakfaaGreatZa07
namespace Go.Proofs.YtgfdhclpffakfaaGreat
set_option linter.unusedVariables false
set_option linter.unusedSimpArgs false
open Go.RowKit

theorem il_len (n : Nat) (f : Nat → Int) : (il n f).length = n := il_length n f
theorem il_congr {N : Nat} {f g : Nat → Int} (h : ∀ j, j < N → f j = g j) : il N f = il N g := by
  apply List.ext_getElem?
  intro j
  by_cases hj : j < N
  · rw [il_get hj, il_get hj, h j hj]
  · rw [List.getElem?_eq_none (by rw [il_len]; omega), List.getElem?_eq_none (by rw [il_len]; omega)]
theorem il_getD {N j : Nat} (h : j < N) (f : Nat → Int) : (il N f).getD j 0 = f j := by
  rw [List.getD_eq_getElem?_getD, il_get h]; rfl
theorem il_mem {n : Nat} {f : Nat → Int} {x : Int} (h : x ∈ il n f) : ∃ j, j < n ∧ f j = x := by
  unfold il at h
  obtain ⟨j, hj, e⟩ := List.mem_map.1 h
  exact ⟨j, List.mem_range.1 hj, e⟩
/-- The list of a permutation. -/
def li (n : Nat) (f : Nat → Nat) : List Int := il n fun i => (f i : Int)
theorem li_len (n : Nat) (f : Nat → Nat) : (li n f).length = n := il_len _ _
theorem li_get {n i : Nat} (h : i < n) (f : Nat → Nat) : (li n f)[i]? = some (f i : Int) := il_get h _
theorem li_congr {n : Nat} {f g : Nat → Nat} (h : ∀ i, i < n → f i = g i) : li n f = li n g := il_congr fun i hi => by rw [h i hi]
theorem li_at {n : Nat} {f g : Nat → Nat} (h : li n f = li n g) {i : Nat} (hi : i < n) : f i = g i := by
  have := li_get hi f
  rw [h, li_get hi g] at this
  injection this with this
  omega
theorem li_inj {n : Nat} {f g : Nat → Nat} (hf : IsP n f) (hg : IsP n g) (h : li n f = li n g) : f = g := isP_ext hf hg fun i hi => li_at h hi
/-- What the walk wants of a permutation in memory. -/
theorem isl_li {w : World} {v : Value} {n : Nat} {f : Nat → Nat} (h : ISl w v (li n f)) : ∃ a cap, v = .slice a n cap ∧ n ≤ cap ∧ cap ≤ maxLen ∧
    (0 < n → ∃ b o, a = some ⟨b, o, none⟩ ∧ ∀ j, j < n → w.cell? ⟨b, o + j, none⟩ = some (.int .i64 (f j : Int))) := by
  obtain ⟨a, cap, h1, h2, h3, h4⟩ := h.open
  rw [li_len] at h1 h2 h4
  refine ⟨a, cap, h1, h2, h3, fun hn => ?_⟩
  obtain ⟨b, o, h5, h6⟩ := h4 hn
  exact ⟨b, o, h5, fun j hj => h6 j _ (li_get hj f)⟩
theorem Own.li {w : World} {base : Nat} {e : TypeId} {g n : Nat} {f : Nat → Nat} (h : Own w base e g n (iv fun i => (f i : Int))) : ISl w (.slice (some ⟨g, 0, none⟩) n n) (Go.Proofs.YtgfdhclpffakfaaGreat.li n f) := h.isl
set_option maxRecDepth 100000 in
set_option maxHeartbeats 1000000 in
theorem then_any (w : World) (n : Nat) (f h : Nat → Nat) (u v : Value) (hu : ISl w u (li n f)) (hv : ISl w v (li n h)) (hn : n ≤ 100) (hf : ∀ i, i < n → f i < n) :
    Calls Tryz.prog 35 #[u, v] w fun r w' => ∃ g, r = .returned (.slice (some ⟨g, 0, none⟩) n n) ∧ Own w' w.heap.size 3 g n (iv fun i => (thenP f h i : Int)) ∧ Ex w w' := by
  obtain ⟨ua, uc, rfl, _, u2, u3⟩ := isl_li hu
  obtain ⟨va, vc, rfl, _, v2, v3⟩ := isl_li hv
  unfold maxLen at u2 v2
  have U3 := hid_ u3
  have V3 := hid_ v3
  have HF := hid_ hf
  clear hu hv u3 v3 hf
  go_enter Tryz.func35, Tryz.ntmps35
  go_wp2_with (at_make; refine wpList_make_arr _ rfl _ _ 32 rfl 3 (.int .i64 0) 8 Tryz.underlying32 infoInt rfl _ n rfl rfl rfl (by omega) (by unfold maxLen; omega) ?_)
  intro w3 hown hx3
  obtain ⟨g, hgg⟩ : ∃ g, w.heap.size = g := ⟨_, rfl⟩
  have HO0 := hid_ (show Own w3 g 3 g n (iv fun i => if i < 0 then (thenP f h i : Int) else 0) from by rw [← hgg]; exact hown.icongr fun i _ => rfl)
  have HX0 := hid_ hx3
  have HSZ := hid_ hgg
  rw [hgg] at ⊢
  clear hown hx3 hgg
  go_wp2_with fail
  go_loopw [13] (fun k' wr => ∃ (k : Nat), k ≤ n ∧ k' = .int .i64 k ∧ Hid (Own wr g 3 g n (iv fun i => if i < k then (thenP f h i : Int) else 0)) ∧ Hid (Ex w wr)) (fun k' _ => n - (intOf k').toNat)
  case atStart => exact ⟨0, by omega, rfl, HO0, HX0⟩
  case round =>
    clear HO0 HX0
    obtain ⟨k, hk, rfl, hown, hx⟩ := hrel
    by_cases hkn : k < n
    · obtain ⟨ub, uo, rfl, huc⟩ := U3.out (by omega)
      obtain ⟨vb, vo, rfl, hvc⟩ := V3.out (by omega)
      have hfk := HF.out k hkn
      have c1 := hx.out.cell (huc k hkn)
      have c2 := hx.out.cell (hvc (f k) hfk)
      have c3 := hown.out.cell hkn
      have c4 := hown.out.frz k
      have i1 : (0 : Int) ≤ (k : Int) := by omega
      have i2 : (k : Int) < (n : Int) := by omega
      have i3 : (0 : Int) ≤ (f k : Int) := by omega
      have i4 : (f k : Int) < (n : Int) := by omega
      have HO := hid_ (show Own (wr.setCell ⟨g, k, none⟩ (.int .i64 (h (f k) : Int))) g 3 g n (iv fun i => if i < k + 1 then (thenP f h i : Int) else 0) from by
        refine (hown.out.set k _).congr fun i hi => ?_
        by_cases e : i = k
        · subst e; rw [upd_same]; show _ = Value.int .i64 (if i < i + 1 then (thenP f h i : Int) else 0); rw [if_pos (by omega)]; rfl
        · rw [upd_ne _ _ e]; show Value.int .i64 (if i < k then (thenP f h i : Int) else 0) = Value.int .i64 (if i < k + 1 then (thenP f h i : Int) else 0)
          by_cases h : i < k
          · rw [if_pos h, if_pos (by omega)]
          · rw [if_neg h, if_neg (by omega)])
      have HX := hid_ (hown.out.exSet (a := w) (by have := HSZ.out; omega) hx.out k (.int .i64 (h (f k) : Int)))
      clear huc hvc hown hx
      go_wp2_with fail
      go_roundw
      case rel => exact ⟨k + 1, by omega, by go_num, HO, HX⟩
      case measure => simp [intOf]; omega
    · obtain rfl : k = n := by omega
      have HO := hid_ (show Own wr w.heap.size 3 g k (iv fun i => (thenP f h i : Int)) from by
        rw [HSZ.out]; exact hown.out.icongr fun i hi => if_pos hi)
      clear hown
      go_wp2_with fail
      go_ret
      exact ⟨g, rfl, HO.out, hx.out⟩
set_option maxRecDepth 100000 in
set_option maxHeartbeats 1000000 in
theorem inverse_any (w : World) (n : Nat) (f : Nat → Nat) (u : Value) (hu : ISl w u (li n f)) (hn : n ≤ 100) (hf : IsP n f) :
    Calls Tryz.prog 43 #[u] w fun r w' => ∃ g, r = .returned (.slice (some ⟨g, 0, none⟩) n n) ∧ Own w' w.heap.size 3 g n (iv fun i => (invP n f i : Int)) ∧ Ex w w' := by
  obtain ⟨ua, uc, rfl, _, u2, u3⟩ := isl_li hu
  unfold maxLen at u2
  have U3 := hid_ u3
  have HF := hid_ hf
  clear hu u3 hf
  go_enter Tryz.func43, Tryz.ntmps43
  go_wp2_with (at_make; refine wpList_make_arr _ rfl _ _ 32 rfl 3 (.int .i64 0) 8 Tryz.underlying32 infoInt rfl _ n rfl rfl rfl (by omega) (by unfold maxLen; omega) ?_)
  intro w3 hown hx3
  obtain ⟨g, hgg⟩ : ∃ g, w.heap.size = g := ⟨_, rfl⟩
  have HO0 := hid_ (show Own w3 g 3 g n (iv fun i => if invP n f i < 0 then (invP n f i : Int) else 0) from by rw [← hgg]; exact hown.icongr fun i _ => rfl)
  have HX0 := hid_ hx3
  have HSZ := hid_ hgg
  rw [hgg] at ⊢
  clear hown hx3 hgg
  go_wp2_with fail
  go_loopw [11] (fun k' wr => ∃ (k : Nat), k ≤ n ∧ k' = .int .i64 k ∧ Hid (Own wr g 3 g n (iv fun i => if invP n f i < k then (invP n f i : Int) else 0)) ∧ Hid (Ex w wr)) (fun k' _ => n - (intOf k').toNat)
  case atStart => exact ⟨0, by omega, rfl, HO0, HX0⟩
  case round =>
    clear HO0 HX0
    obtain ⟨k, hk, rfl, hown, hx⟩ := hrel
    by_cases hkn : k < n
    · obtain ⟨ub, uo, rfl, huc⟩ := U3.out (by omega)
      have hfk := HF.out.lt k hkn
      have c1 := hx.out.cell (huc k hkn)
      have c3 := hown.out.cell hfk
      have c4 := hown.out.frz (f k)
      have i1 : (0 : Int) ≤ (k : Int) := by omega
      have i2 : (k : Int) < (n : Int) := by omega
      have i3 : (0 : Int) ≤ (f k : Int) := by omega
      have i4 : (f k : Int) < (n : Int) := by omega
      have HO := hid_ (show Own (wr.setCell ⟨g, f k, none⟩ (.int .i64 (k : Int))) g 3 g n (iv fun i => if invP n f i < k + 1 then (invP n f i : Int) else 0) from by
        refine (hown.out.set (f k) _).congr fun i hi => ?_
        by_cases e : i = f k
        · subst e; rw [upd_same]; show _ = Value.int .i64 (if invP n f (f k) < k + 1 then (invP n f (f k) : Int) else 0); rw [HF.out.inv_l, if_pos (by omega)]
        · rw [upd_ne _ _ e]; show Value.int .i64 (if invP n f i < k then (invP n f i : Int) else 0) = Value.int .i64 (if invP n f i < k + 1 then (invP n f i : Int) else 0)
          have h1 : invP n f i ≠ k := fun h => e (by rw [← h, HF.out.inv_r])
          by_cases h : invP n f i < k
          · rw [if_pos h, if_pos (by omega)]
          · rw [if_neg h, if_neg (by omega)])
      have HX := hid_ (hown.out.exSet (a := w) (by have := HSZ.out; omega) hx.out (f k) (.int .i64 (k : Int)))
      clear huc hown hx
      go_wp2_with fail
      go_roundw
      case rel => exact ⟨k + 1, by omega, by go_num, HO, HX⟩
      case measure => simp [intOf]; omega
    · obtain rfl : k = n := by omega
      have HO := hid_ (show Own wr w.heap.size 3 g k (iv fun i => (invP k f i : Int)) from by
        rw [HSZ.out]; exact hown.out.icongr fun i hi => if_pos (HF.out.inv.lt i hi))
      clear hown
      go_wp2_with fail
      go_ret
      exact ⟨g, rfl, HO.out, hx.out⟩
set_option maxRecDepth 100000 in
set_option maxHeartbeats 1000000 in
theorem identity_any (w : World) (n : Nat) (hn : n ≤ 100) :
    Calls Tryz.prog 36 #[.int .i64 n] w fun r w' => ∃ g, r = .returned (.slice (some ⟨g, 0, none⟩) n n) ∧ Own w' w.heap.size 3 g n (iv fun i => (idP i : Int)) ∧ Ex w w' := by
  go_enter Tryz.func36, Tryz.ntmps36
  go_wp2_with (at_make; refine wpList_make_arr _ rfl _ _ 32 rfl 3 (.int .i64 0) 8 Tryz.underlying32 infoInt rfl _ n rfl rfl rfl (by omega) (by unfold maxLen; omega) ?_)
  intro w3 hown hx3
  obtain ⟨g, hgg⟩ : ∃ g, w.heap.size = g := ⟨_, rfl⟩
  have HO0 := hid_ (show Own w3 g 3 g n (iv fun i => if i < 0 then (i : Int) else 0) from by rw [← hgg]; exact hown.icongr fun i _ => rfl)
  have HX0 := hid_ hx3
  have HSZ := hid_ hgg
  rw [hgg] at ⊢
  clear hown hx3 hgg
  go_wp2_with fail
  go_loopw [9] (fun k' wr => ∃ (k : Nat), k ≤ n ∧ k' = .int .i64 k ∧ Hid (Own wr g 3 g n (iv fun i => if i < k then (i : Int) else 0)) ∧ Hid (Ex w wr)) (fun k' _ => n - (intOf k').toNat)
  case atStart => exact ⟨0, by omega, rfl, HO0, HX0⟩
  case round =>
    clear HO0 HX0
    obtain ⟨k, hk, rfl, hown, hx⟩ := hrel
    by_cases hkn : k < n
    · have c3 := hown.out.cell hkn
      have c4 := hown.out.frz k
      have i1 : (0 : Int) ≤ (k : Int) := by omega
      have i2 : (k : Int) < (n : Int) := by omega
      have HO := hid_ (show Own (wr.setCell ⟨g, k, none⟩ (.int .i64 (k : Int))) g 3 g n (iv fun i => if i < k + 1 then (i : Int) else 0) from by
        refine (hown.out.set k _).congr fun i hi => ?_
        by_cases e : i = k
        · subst e; rw [upd_same]; show _ = Value.int .i64 (if i < i + 1 then (i : Int) else 0); rw [if_pos (by omega)]
        · rw [upd_ne _ _ e]; show Value.int .i64 (if i < k then (i : Int) else 0) = Value.int .i64 (if i < k + 1 then (i : Int) else 0)
          by_cases h : i < k
          · rw [if_pos h, if_pos (by omega)]
          · rw [if_neg h, if_neg (by omega)])
      have HX := hid_ (hown.out.exSet (a := w) (by have := HSZ.out; omega) hx.out k (.int .i64 (k : Int)))
      clear hown hx
      go_wp2_with fail
      go_roundw
      case rel => exact ⟨k + 1, by omega, by go_num, HO, HX⟩
      case measure => simp [intOf]; omega
    · obtain rfl : k = n := by omega
      have HO := hid_ (show Own wr w.heap.size 3 g k (iv fun i => (idP i : Int)) from by
        rw [HSZ.out]; exact hown.out.icongr fun i hi => if_pos hi)
      clear hown
      go_wp2_with fail
      go_ret
      exact ⟨g, rfl, HO.out, hx.out⟩
end Go.Proofs.YtgfdhclpffakfaaGreat
