/- slices.IndexFunc and slices.ContainsFunc at the chapter's closures (printed by gen_finde.py). -/
/- Walks of equivalence.injective, factors, open, Check. -/
import Derived.Test.YtgdmlmhpineibaaGreatZd14
import Derived.Test.YtgdmlmhpineibaaGreatZd26
namespace Go.Proofs.YtgdmlmhpineibaaGreat
set_option linter.unusedVariables false
set_option linter.unusedSimpArgs false
open Go.RowKit

set_option maxRecDepth 100000 in
set_option maxHeartbeats 1000000 in
theorem IndexFunc_inj (w : World) (p0 : Value) (v : Value) (n : Nat) (us : List Value) (hv : Sl w v n 1 us) (pr : Nat → Bool)
    (hp : ∀ (w1 : World) (i : Nat) (u : Value), Ex w w1 → us[i]? = some u → Calls Tryz.prog 138 #[u, p0] w1 fun e w' => e = .returned (.bool (pr i)) ∧ Ex w1 w') :
    Calls Tryz.prog 90 #[v, .func (.func 138) #[] #[p0]] w fun r w' => r = .returned (.int .i64 (fstI pr n)) ∧ Ex w w' := by
  obtain ⟨hl, a, cap, rfl, s1, s2, s3⟩ := hv
  rw [Nat.mul_one] at hl
  have S3 := hid_ s3
  have HP := hid_ hp
  have HL := hid_ hl
  unfold maxLen at s2
  clear s3 hp hl
  go_enter Tryz.func90, Tryz.ntmps90
  go_wp2_with fail
  go_loopg [5, 8] n (fun gg _ i' wr => ∃ i : Nat, i ≤ n ∧ n - i ≤ gg ∧ i' = .int .i64 i ∧ Hid (Ex w wr) ∧ Hid (∀ j, j < i → pr j = false))
  case atStart => exact ⟨0, by omega, by omega, rfl, hid_ (Ex.refl _), hid_ (fun j hj => by omega)⟩
  case round =>
    obtain ⟨i, hi, hg, rfl, hex, hall⟩ := hrel
    by_cases hlt : i < n
    · obtain ⟨u, hu⟩ : ∃ u, us[i]? = some u := ⟨_, List.getElem?_eq_getElem (by rw [HL.out]; exact hlt)⟩
      obtain ⟨bb, o, rfl, hc⟩ := S3.out (by omega)
      have c1 := hex.out.cell (hc i u hu)
      have HC := hid_ (HP.out wr i u hex.out hu)
      have hlt' : (i : Int) < (n : Int) := by omega
      clear hc hu
      cases hb : pr i with
      | true =>
        rw [hb] at HC
        have HF := hid_ (fstI_hit hlt hb hall.out)
        clear hb
        go_wp2_with (go_at_call 138; refine HC.out.mono ?_; rintro e w' ⟨rfl, hx⟩; have HX := hid_ (hex.out.trans hx); clear hx)
        go_ret
        exact ⟨ret_int HF.out.symm, HX.out⟩
      | false =>
        rw [hb] at HC
        have HA := hid_ (show ∀ j, j < i + 1 → pr j = false from fun j hj => by
          by_cases e : j = i
          · subst e; exact hb
          · exact hall.out j (by omega))
        clear hb
        go_wp2_with (go_at_call 138; refine HC.out.mono ?_; rintro e w' ⟨rfl, hx⟩; have HX := hid_ (hex.out.trans hx); clear hx)
        go_roundg (n - (i + 1))
        case measure => omega
        case rel => exact ⟨i + 1, by omega, by omega, by go_num, HX, HA⟩
    · obtain rfl : i = n := by omega
      have HF := hid_ (fstI_miss hall.out)
      go_wp2_with fail
      go_ret
      exact ⟨ret_int HF.out.symm, hex.out⟩
set_option maxRecDepth 100000 in
set_option maxHeartbeats 1000000 in
theorem ContainsFunc_inj (w : World) (p0 : Value) (v : Value) (n : Nat) (us : List Value) (hv : Sl w v n 1 us) (pr : Nat → Bool)
    (hp : ∀ (w1 : World) (i : Nat) (u : Value), Ex w w1 → us[i]? = some u → Calls Tryz.prog 138 #[u, p0] w1 fun e w' => e = .returned (.bool (pr i)) ∧ Ex w1 w') :
    Calls Tryz.prog 47 #[v, .func (.func 138) #[] #[p0]] w fun r w' => r = .returned (.bool ((List.range n).any pr)) ∧ Ex w w' := by
  have HC := hid_ (IndexFunc_inj w p0 v n us hv pr hp)
  have HB := hid_ (fstI_any pr n)
  obtain ⟨z, hz⟩ : ∃ z, fstI pr n = z := ⟨_, rfl⟩
  rw [hz] at HC HB
  clear hz hp hv
  go_enter Tryz.func47, Tryz.ntmps47
  go_wp2_with (go_at_call 90; refine HC.out.mono ?_; rintro e w' ⟨rfl, hx⟩; have HX := hid_ hx; clear hx)
  go_ret
  exact ⟨ret_bool HB.out.symm, HX.out⟩
set_option maxRecDepth 100000 in
set_option maxHeartbeats 1000000 in
theorem IndexFunc_fac (w : World) (p0 : Value) (v : Value) (n : Nat) (us : List Value) (hv : Sl w v n 1 us) (pr : Nat → Bool)
    (hp : ∀ (w1 : World) (i : Nat) (u : Value), Ex w w1 → us[i]? = some u → Calls Tryz.prog 139 #[u, p0] w1 fun e w' => e = .returned (.bool (pr i)) ∧ Ex w1 w') :
    Calls Tryz.prog 90 #[v, .func (.func 139) #[] #[p0]] w fun r w' => r = .returned (.int .i64 (fstI pr n)) ∧ Ex w w' := by
  obtain ⟨hl, a, cap, rfl, s1, s2, s3⟩ := hv
  rw [Nat.mul_one] at hl
  have S3 := hid_ s3
  have HP := hid_ hp
  have HL := hid_ hl
  unfold maxLen at s2
  clear s3 hp hl
  go_enter Tryz.func90, Tryz.ntmps90
  go_wp2_with fail
  go_loopg [5, 8] n (fun gg _ i' wr => ∃ i : Nat, i ≤ n ∧ n - i ≤ gg ∧ i' = .int .i64 i ∧ Hid (Ex w wr) ∧ Hid (∀ j, j < i → pr j = false))
  case atStart => exact ⟨0, by omega, by omega, rfl, hid_ (Ex.refl _), hid_ (fun j hj => by omega)⟩
  case round =>
    obtain ⟨i, hi, hg, rfl, hex, hall⟩ := hrel
    by_cases hlt : i < n
    · obtain ⟨u, hu⟩ : ∃ u, us[i]? = some u := ⟨_, List.getElem?_eq_getElem (by rw [HL.out]; exact hlt)⟩
      obtain ⟨bb, o, rfl, hc⟩ := S3.out (by omega)
      have c1 := hex.out.cell (hc i u hu)
      have HC := hid_ (HP.out wr i u hex.out hu)
      have hlt' : (i : Int) < (n : Int) := by omega
      clear hc hu
      cases hb : pr i with
      | true =>
        rw [hb] at HC
        have HF := hid_ (fstI_hit hlt hb hall.out)
        clear hb
        go_wp2_with (go_at_call 139; refine HC.out.mono ?_; rintro e w' ⟨rfl, hx⟩; have HX := hid_ (hex.out.trans hx); clear hx)
        go_ret
        exact ⟨ret_int HF.out.symm, HX.out⟩
      | false =>
        rw [hb] at HC
        have HA := hid_ (show ∀ j, j < i + 1 → pr j = false from fun j hj => by
          by_cases e : j = i
          · subst e; exact hb
          · exact hall.out j (by omega))
        clear hb
        go_wp2_with (go_at_call 139; refine HC.out.mono ?_; rintro e w' ⟨rfl, hx⟩; have HX := hid_ (hex.out.trans hx); clear hx)
        go_roundg (n - (i + 1))
        case measure => omega
        case rel => exact ⟨i + 1, by omega, by omega, by go_num, HX, HA⟩
    · obtain rfl : i = n := by omega
      have HF := hid_ (fstI_miss hall.out)
      go_wp2_with fail
      go_ret
      exact ⟨ret_int HF.out.symm, hex.out⟩
set_option maxRecDepth 100000 in
set_option maxHeartbeats 1000000 in
theorem ContainsFunc_fac (w : World) (p0 : Value) (v : Value) (n : Nat) (us : List Value) (hv : Sl w v n 1 us) (pr : Nat → Bool)
    (hp : ∀ (w1 : World) (i : Nat) (u : Value), Ex w w1 → us[i]? = some u → Calls Tryz.prog 139 #[u, p0] w1 fun e w' => e = .returned (.bool (pr i)) ∧ Ex w1 w') :
    Calls Tryz.prog 47 #[v, .func (.func 139) #[] #[p0]] w fun r w' => r = .returned (.bool ((List.range n).any pr)) ∧ Ex w w' := by
  have HC := hid_ (IndexFunc_fac w p0 v n us hv pr hp)
  have HB := hid_ (fstI_any pr n)
  obtain ⟨z, hz⟩ : ∃ z, fstI pr n = z := ⟨_, rfl⟩
  rw [hz] at HC HB
  clear hz hp hv
  go_enter Tryz.func47, Tryz.ntmps47
  go_wp2_with (go_at_call 90; refine HC.out.mono ?_; rintro e w' ⟨rfl, hx⟩; have HX := hid_ hx; clear hx)
  go_ret
  exact ⟨ret_bool HB.out.symm, HX.out⟩
set_option maxRecDepth 100000 in
set_option maxHeartbeats 1000000 in
theorem IndexFunc_wrd (w : World) (p0 : Value) (v : Value) (n : Nat) (us : List Value) (hv : Sl w v n 1 us) (pr : Nat → Bool)
    (hp : ∀ (w1 : World) (i : Nat) (u : Value), Ex w w1 → us[i]? = some u → Calls Tryz.prog 48 #[u, p0] w1 fun e w' => e = .returned (.bool (pr i)) ∧ Ex w1 w') :
    Calls Tryz.prog 90 #[v, .func (.func 48) #[] #[p0]] w fun r w' => r = .returned (.int .i64 (fstI pr n)) ∧ Ex w w' := by
  obtain ⟨hl, a, cap, rfl, s1, s2, s3⟩ := hv
  rw [Nat.mul_one] at hl
  have S3 := hid_ s3
  have HP := hid_ hp
  have HL := hid_ hl
  unfold maxLen at s2
  clear s3 hp hl
  go_enter Tryz.func90, Tryz.ntmps90
  go_wp2_with fail
  go_loopg [5, 8] n (fun gg _ i' wr => ∃ i : Nat, i ≤ n ∧ n - i ≤ gg ∧ i' = .int .i64 i ∧ Hid (Ex w wr) ∧ Hid (∀ j, j < i → pr j = false))
  case atStart => exact ⟨0, by omega, by omega, rfl, hid_ (Ex.refl _), hid_ (fun j hj => by omega)⟩
  case round =>
    obtain ⟨i, hi, hg, rfl, hex, hall⟩ := hrel
    by_cases hlt : i < n
    · obtain ⟨u, hu⟩ : ∃ u, us[i]? = some u := ⟨_, List.getElem?_eq_getElem (by rw [HL.out]; exact hlt)⟩
      obtain ⟨bb, o, rfl, hc⟩ := S3.out (by omega)
      have c1 := hex.out.cell (hc i u hu)
      have HC := hid_ (HP.out wr i u hex.out hu)
      have hlt' : (i : Int) < (n : Int) := by omega
      clear hc hu
      cases hb : pr i with
      | true =>
        rw [hb] at HC
        have HF := hid_ (fstI_hit hlt hb hall.out)
        clear hb
        go_wp2_with (go_at_call 48; refine HC.out.mono ?_; rintro e w' ⟨rfl, hx⟩; have HX := hid_ (hex.out.trans hx); clear hx)
        go_ret
        exact ⟨ret_int HF.out.symm, HX.out⟩
      | false =>
        rw [hb] at HC
        have HA := hid_ (show ∀ j, j < i + 1 → pr j = false from fun j hj => by
          by_cases e : j = i
          · subst e; exact hb
          · exact hall.out j (by omega))
        clear hb
        go_wp2_with (go_at_call 48; refine HC.out.mono ?_; rintro e w' ⟨rfl, hx⟩; have HX := hid_ (hex.out.trans hx); clear hx)
        go_roundg (n - (i + 1))
        case measure => omega
        case rel => exact ⟨i + 1, by omega, by omega, by go_num, HX, HA⟩
    · obtain rfl : i = n := by omega
      have HF := hid_ (fstI_miss hall.out)
      go_wp2_with fail
      go_ret
      exact ⟨ret_int HF.out.symm, hex.out⟩
set_option maxRecDepth 100000 in
set_option maxHeartbeats 1000000 in
theorem ContainsFunc_wrd (w : World) (p0 : Value) (v : Value) (n : Nat) (us : List Value) (hv : Sl w v n 1 us) (pr : Nat → Bool)
    (hp : ∀ (w1 : World) (i : Nat) (u : Value), Ex w w1 → us[i]? = some u → Calls Tryz.prog 48 #[u, p0] w1 fun e w' => e = .returned (.bool (pr i)) ∧ Ex w1 w') :
    Calls Tryz.prog 47 #[v, .func (.func 48) #[] #[p0]] w fun r w' => r = .returned (.bool ((List.range n).any pr)) ∧ Ex w w' := by
  have HC := hid_ (IndexFunc_wrd w p0 v n us hv pr hp)
  have HB := hid_ (fstI_any pr n)
  obtain ⟨z, hz⟩ : ∃ z, fstI pr n = z := ⟨_, rfl⟩
  rw [hz] at HC HB
  clear hz hp hv
  go_enter Tryz.func47, Tryz.ntmps47
  go_wp2_with (go_at_call 90; refine HC.out.mono ?_; rintro e w' ⟨rfl, hx⟩; have HX := hid_ hx; clear hx)
  go_ret
  exact ⟨ret_bool HB.out.symm, HX.out⟩
set_option maxRecDepth 100000 in
set_option maxHeartbeats 1000000 in
theorem IndexFunc_shw (w : World) (p0 : Value) (v : Value) (n : Nat) (us : List Value) (hv : Sl w v n 1 us) (pr : Nat → Bool)
    (hp : ∀ (w1 : World) (i : Nat) (u : Value), Ex w w1 → us[i]? = some u → Calls Tryz.prog 111 #[u, p0] w1 fun e w' => e = .returned (.bool (pr i)) ∧ Ex w1 w') :
    Calls Tryz.prog 90 #[v, .func (.func 111) #[] #[p0]] w fun r w' => r = .returned (.int .i64 (fstI pr n)) ∧ Ex w w' := by
  obtain ⟨hl, a, cap, rfl, s1, s2, s3⟩ := hv
  rw [Nat.mul_one] at hl
  have S3 := hid_ s3
  have HP := hid_ hp
  have HL := hid_ hl
  unfold maxLen at s2
  clear s3 hp hl
  go_enter Tryz.func90, Tryz.ntmps90
  go_wp2_with fail
  go_loopg [5, 8] n (fun gg _ i' wr => ∃ i : Nat, i ≤ n ∧ n - i ≤ gg ∧ i' = .int .i64 i ∧ Hid (Ex w wr) ∧ Hid (∀ j, j < i → pr j = false))
  case atStart => exact ⟨0, by omega, by omega, rfl, hid_ (Ex.refl _), hid_ (fun j hj => by omega)⟩
  case round =>
    obtain ⟨i, hi, hg, rfl, hex, hall⟩ := hrel
    by_cases hlt : i < n
    · obtain ⟨u, hu⟩ : ∃ u, us[i]? = some u := ⟨_, List.getElem?_eq_getElem (by rw [HL.out]; exact hlt)⟩
      obtain ⟨bb, o, rfl, hc⟩ := S3.out (by omega)
      have c1 := hex.out.cell (hc i u hu)
      have HC := hid_ (HP.out wr i u hex.out hu)
      have hlt' : (i : Int) < (n : Int) := by omega
      clear hc hu
      cases hb : pr i with
      | true =>
        rw [hb] at HC
        have HF := hid_ (fstI_hit hlt hb hall.out)
        clear hb
        go_wp2_with (go_at_call 111; refine HC.out.mono ?_; rintro e w' ⟨rfl, hx⟩; have HX := hid_ (hex.out.trans hx); clear hx)
        go_ret
        exact ⟨ret_int HF.out.symm, HX.out⟩
      | false =>
        rw [hb] at HC
        have HA := hid_ (show ∀ j, j < i + 1 → pr j = false from fun j hj => by
          by_cases e : j = i
          · subst e; exact hb
          · exact hall.out j (by omega))
        clear hb
        go_wp2_with (go_at_call 111; refine HC.out.mono ?_; rintro e w' ⟨rfl, hx⟩; have HX := hid_ (hex.out.trans hx); clear hx)
        go_roundg (n - (i + 1))
        case measure => omega
        case rel => exact ⟨i + 1, by omega, by omega, by go_num, HX, HA⟩
    · obtain rfl : i = n := by omega
      have HF := hid_ (fstI_miss hall.out)
      go_wp2_with fail
      go_ret
      exact ⟨ret_int HF.out.symm, hex.out⟩
set_option maxRecDepth 100000 in
set_option maxHeartbeats 1000000 in
theorem ContainsFunc_shw (w : World) (p0 : Value) (v : Value) (n : Nat) (us : List Value) (hv : Sl w v n 1 us) (pr : Nat → Bool)
    (hp : ∀ (w1 : World) (i : Nat) (u : Value), Ex w w1 → us[i]? = some u → Calls Tryz.prog 111 #[u, p0] w1 fun e w' => e = .returned (.bool (pr i)) ∧ Ex w1 w') :
    Calls Tryz.prog 47 #[v, .func (.func 111) #[] #[p0]] w fun r w' => r = .returned (.bool ((List.range n).any pr)) ∧ Ex w w' := by
  have HC := hid_ (IndexFunc_shw w p0 v n us hv pr hp)
  have HB := hid_ (fstI_any pr n)
  obtain ⟨z, hz⟩ : ∃ z, fstI pr n = z := ⟨_, rfl⟩
  rw [hz] at HC HB
  clear hz hp hv
  go_enter Tryz.func47, Tryz.ntmps47
  go_wp2_with (go_at_call 90; refine HC.out.mono ?_; rintro e w' ⟨rfl, hx⟩; have HX := hid_ hx; clear hx)
  go_ret
  exact ⟨ret_bool HB.out.symm, HX.out⟩
set_option maxRecDepth 100000 in
set_option maxHeartbeats 1000000 in
theorem IndexFunc_red (w : World) (v : Value) (n : Nat) (us : List Value) (hv : Sl w v n 1 us) (pr : Nat → Bool)
    (hp : ∀ (w1 : World) (i : Nat) (u : Value), Ex w w1 → us[i]? = some u → Calls Tryz.prog 173 #[u] w1 fun e w' => e = .returned (.bool (pr i)) ∧ Ex w1 w') :
    Calls Tryz.prog 90 #[v, .func (.func 173) #[] #[]] w fun r w' => r = .returned (.int .i64 (fstI pr n)) ∧ Ex w w' := by
  obtain ⟨hl, a, cap, rfl, s1, s2, s3⟩ := hv
  rw [Nat.mul_one] at hl
  have S3 := hid_ s3
  have HP := hid_ hp
  have HL := hid_ hl
  unfold maxLen at s2
  clear s3 hp hl
  go_enter Tryz.func90, Tryz.ntmps90
  go_wp2_with fail
  go_loopg [5, 8] n (fun gg _ i' wr => ∃ i : Nat, i ≤ n ∧ n - i ≤ gg ∧ i' = .int .i64 i ∧ Hid (Ex w wr) ∧ Hid (∀ j, j < i → pr j = false))
  case atStart => exact ⟨0, by omega, by omega, rfl, hid_ (Ex.refl _), hid_ (fun j hj => by omega)⟩
  case round =>
    obtain ⟨i, hi, hg, rfl, hex, hall⟩ := hrel
    by_cases hlt : i < n
    · obtain ⟨u, hu⟩ : ∃ u, us[i]? = some u := ⟨_, List.getElem?_eq_getElem (by rw [HL.out]; exact hlt)⟩
      obtain ⟨bb, o, rfl, hc⟩ := S3.out (by omega)
      have c1 := hex.out.cell (hc i u hu)
      have HC := hid_ (HP.out wr i u hex.out hu)
      have hlt' : (i : Int) < (n : Int) := by omega
      clear hc hu
      cases hb : pr i with
      | true =>
        rw [hb] at HC
        have HF := hid_ (fstI_hit hlt hb hall.out)
        clear hb
        go_wp2_with (go_at_call 173; refine HC.out.mono ?_; rintro e w' ⟨rfl, hx⟩; have HX := hid_ (hex.out.trans hx); clear hx)
        go_ret
        exact ⟨ret_int HF.out.symm, HX.out⟩
      | false =>
        rw [hb] at HC
        have HA := hid_ (show ∀ j, j < i + 1 → pr j = false from fun j hj => by
          by_cases e : j = i
          · subst e; exact hb
          · exact hall.out j (by omega))
        clear hb
        go_wp2_with (go_at_call 173; refine HC.out.mono ?_; rintro e w' ⟨rfl, hx⟩; have HX := hid_ (hex.out.trans hx); clear hx)
        go_roundg (n - (i + 1))
        case measure => omega
        case rel => exact ⟨i + 1, by omega, by omega, by go_num, HX, HA⟩
    · obtain rfl : i = n := by omega
      have HF := hid_ (fstI_miss hall.out)
      go_wp2_with fail
      go_ret
      exact ⟨ret_int HF.out.symm, hex.out⟩
set_option maxRecDepth 100000 in
set_option maxHeartbeats 1000000 in
theorem IndexFunc_mis (w : World) (p0 : Value) (v : Value) (n : Nat) (us : List Value) (hv : Sl w v n 1 us) (pr : Nat → Bool)
    (hp : ∀ (w1 : World) (i : Nat) (u : Value), Ex w w1 → us[i]? = some u → Calls Tryz.prog 154 #[u, p0] w1 fun e w' => e = .returned (.bool (pr i)) ∧ Ex w1 w') :
    Calls Tryz.prog 153 #[v, .func (.func 154) #[] #[p0]] w fun r w' => r = .returned (.int .i64 (fstI pr n)) ∧ Ex w w' := by
  obtain ⟨hl, a, cap, rfl, s1, s2, s3⟩ := hv
  rw [Nat.mul_one] at hl
  have S3 := hid_ s3
  have HP := hid_ hp
  have HL := hid_ hl
  unfold maxLen at s2
  clear s3 hp hl
  go_enter Tryz.func153, Tryz.ntmps153
  go_wp2_with fail
  go_loopg [5, 8] n (fun gg _ i' wr => ∃ i : Nat, i ≤ n ∧ n - i ≤ gg ∧ i' = .int .i64 i ∧ Hid (Ex w wr) ∧ Hid (∀ j, j < i → pr j = false))
  case atStart => exact ⟨0, by omega, by omega, rfl, hid_ (Ex.refl _), hid_ (fun j hj => by omega)⟩
  case round =>
    obtain ⟨i, hi, hg, rfl, hex, hall⟩ := hrel
    by_cases hlt : i < n
    · obtain ⟨u, hu⟩ : ∃ u, us[i]? = some u := ⟨_, List.getElem?_eq_getElem (by rw [HL.out]; exact hlt)⟩
      obtain ⟨bb, o, rfl, hc⟩ := S3.out (by omega)
      have c1 := hex.out.cell (hc i u hu)
      have HC := hid_ (HP.out wr i u hex.out hu)
      have hlt' : (i : Int) < (n : Int) := by omega
      clear hc hu
      cases hb : pr i with
      | true =>
        rw [hb] at HC
        have HF := hid_ (fstI_hit hlt hb hall.out)
        clear hb
        go_wp2_with (go_at_call 154; refine HC.out.mono ?_; rintro e w' ⟨rfl, hx⟩; have HX := hid_ (hex.out.trans hx); clear hx)
        go_ret
        exact ⟨ret_int HF.out.symm, HX.out⟩
      | false =>
        rw [hb] at HC
        have HA := hid_ (show ∀ j, j < i + 1 → pr j = false from fun j hj => by
          by_cases e : j = i
          · subst e; exact hb
          · exact hall.out j (by omega))
        clear hb
        go_wp2_with (go_at_call 154; refine HC.out.mono ?_; rintro e w' ⟨rfl, hx⟩; have HX := hid_ (hex.out.trans hx); clear hx)
        go_roundg (n - (i + 1))
        case measure => omega
        case rel => exact ⟨i + 1, by omega, by omega, by go_num, HX, HA⟩
    · obtain rfl : i = n := by omega
      have HF := hid_ (fstI_miss hall.out)
      go_wp2_with fail
      go_ret
      exact ⟨ret_int HF.out.symm, hex.out⟩
end Go.Proofs.YtgdmlmhpineibaaGreat
namespace Go.Proofs.YtgdmlmhpineibaaGreat
set_option linter.unusedVariables false
set_option linter.unusedSimpArgs false
open Go.RowKit

theorem isl_take {w : World} {a : Option Addr} {n cap : Nat} {l : List Int} (h : ISl w (.slice a n cap) l) {i : Nat} (hi : i ≤ l.length) : ISl w (.slice a i cap) (l.take i) := by
  obtain ⟨a', cap', e, h1, h2, h3⟩ := h.open
  injection e with e1 e2 e3
  subst e1 e3
  have hl : (l.take i).length = i := by rw [List.length_take]; omega
  unfold ISl
  rw [hl]
  refine ⟨by rw [ints_length, hl]; omega, a, cap, rfl, by omega, h2, fun hn => ?_⟩
  obtain ⟨b, o, rfl, h4⟩ := h3 (by omega)
  refine ⟨b, o, rfl, fun j u hu => ?_⟩
  simp only [ints, List.getElem?_map, List.getElem?_take] at hu
  split at hu
  · obtain ⟨y, hy, rfl⟩ := Option.map_eq_some_iff.1 hu
    exact h4 j y hy
  · cases hu
/-- An entry occurs twice. -/
def dupK (l : List Int) (k : Nat) : Bool := (List.range k).any fun i => (l.take i).contains (l.getD i 0)
def dupB (l : List Int) : Bool := dupK l l.length
theorem dupK_succ (l : List Int) (k : Nat) : dupK l (k + 1) = (dupK l k || (l.take k).contains (l.getD k 0)) := by
  unfold dupK; rw [List.range_succ, List.any_append]; simp
theorem dupK_mono {l : List Int} {k n : Nat} (h : k ≤ n) (hd : dupK l k = true) : dupK l n = true := by
  unfold dupK at *
  obtain ⟨i, hi, hb⟩ := List.any_eq_true.1 hd
  exact List.any_eq_true.2 ⟨i, List.mem_range.2 (by have := List.mem_range.1 hi; omega), hb⟩
/-- Entries from 0 to n - 1. -/
def rngB (l : List Int) (n : Int) : Bool := l.all fun x => decide (0 ≤ x ∧ x < n)
def injS (l : List Int) (n : Int) : Int := if rngB l n = false then 6 else if dupB l = true then 18 else 0
theorem any_getD (l : List Int) (f : Int → Bool) : ((List.range l.length).any fun j => f (l.getD j 0)) = l.any f := by
  rw [Bool.eq_iff_iff, List.any_eq_true, List.any_eq_true]
  constructor
  · rintro ⟨j, hj, h⟩
    have hj := List.mem_range.1 hj
    refine ⟨l[j], List.getElem_mem hj, ?_⟩
    rwa [List.getD_eq_getElem?_getD, List.getElem?_eq_getElem hj] at h
  · rintro ⟨x, hx, h⟩
    obtain ⟨j, hj, rfl⟩ := List.getElem_of_mem hx
    exact ⟨j, List.mem_range.2 hj, by rw [List.getD_eq_getElem?_getD, List.getElem?_eq_getElem hj]; exact h⟩
theorem ints_at {l : List Int} {i : Nat} {u : Value} (h : (ints l)[i]? = some u) : ∃ x, l[i]? = some x ∧ u = .int .i64 x ∧ l.getD i 0 = x := by
  unfold ints at h
  rw [List.getElem?_map] at h
  obtain ⟨x, hx, rfl⟩ := Option.map_eq_some_iff.1 h
  exact ⟨x, hx, rfl, by rw [List.getD_eq_getElem?_getD, hx]; rfl⟩
set_option maxRecDepth 100000 in
set_option maxHeartbeats 1000000 in
theorem inj1_any (w : World) (B : Nat) (n x : Int) (c0 : w.cell? ⟨B, 0, none⟩ = some (.int .i64 n)) :
    Calls Tryz.prog 138 #[.int .i64 x, .pointer (some ⟨B, 0, none⟩)] w fun r w' => r = .returned (.bool (!decide (0 ≤ x ∧ x < n))) ∧ Ex w w' := by
  by_cases h0 : x < 0
  · have HR := hid_ (show true = !decide (0 ≤ x ∧ x < n) from by simp; omega)
    have b1 : decide (x < 0) = true := decide_eq_true h0
    clear h0
    go_enter Tryz.func138, Tryz.ntmps138
    go_wp2_with fail
    go_ret
    exact ⟨ret_bool HR.out, Ex.refl _⟩
  · have b1 : decide (x < 0) = false := decide_eq_false h0
    by_cases h1 : n ≤ x
    · have HR := hid_ (show true = !decide (0 ≤ x ∧ x < n) from by simp; omega)
      have b2 : decide (n ≤ x) = true := decide_eq_true h1
      clear h0 h1
      go_enter Tryz.func138, Tryz.ntmps138
      go_wp2_with fail
      go_ret
      exact ⟨ret_bool HR.out, Ex.refl _⟩
    · have HR := hid_ (show false = !decide (0 ≤ x ∧ x < n) from by simp; omega)
      have b2 : decide (n ≤ x) = false := decide_eq_false h1
      clear h0 h1
      go_enter Tryz.func138, Tryz.ntmps138
      go_wp2_with fail
      go_ret
      exact ⟨ret_bool HR.out, Ex.refl _⟩
set_option maxRecDepth 100000 in
set_option maxHeartbeats 2000000 in
theorem injective_any (w : World) (l : List Int) (v : Value) (n : Int) (hl : ISl w v l) :
    Calls Tryz.prog 88 #[v, .int .i64 n] w fun r w' => r = .returned (.int .i64 (injS l n)) ∧ Ex w w' := by
  have ea : Ex w (w.alloc (.cells #[.int .i64 n] 3)) := (Ex.refl _).alloc _
  have q0 : (w.alloc (.cells #[.int .i64 n] 3)).cell? ⟨w.heap.size, 0, none⟩ = some (.int .i64 n) := by simp
  have HL := hid_ (hl.ex ea)
  have HC := hid_ (ContainsFunc_inj (w.alloc (.cells #[.int .i64 n] 3)) (.pointer (some ⟨w.heap.size, 0, none⟩)) v l.length (ints l) (hl.ex ea) (fun j => !decide (0 ≤ l.getD j 0 ∧ l.getD j 0 < n)) fun w1 i u hx hu => by
    obtain ⟨x, _, rfl, hx2⟩ := ints_at hu
    rw [hx2]
    exact inj1_any w1 w.heap.size n x (hx.cell q0))
  have hc := HC.out
  rw [any_getD l fun x => !decide (0 ≤ x ∧ x < n)] at hc
  have HC := hid_ hc
  obtain ⟨a, cap, rfl, s1, s2, s3⟩ := hl.open
  unfold maxLen at s2
  have HEA := hid_ ea
  clear hl s3 hc ea
  by_cases hr : rngB l n = true
  · have h1 : (l.any fun x => !decide (0 ≤ x ∧ x < n)) = false := by
      unfold rngB at hr
      rw [List.any_eq_false]
      intro x hx
      have := List.all_eq_true.1 hr x hx
      simpa using this
    rw [h1] at HC
    have HIS := hid_ (show injS l n = if dupB l = true then 18 else 0 from by unfold injS; rw [hr, if_neg (by decide)])
    clear hr h1
    go_enter Tryz.func88, Tryz.ntmps88
    go_wp2_with fail
    obtain ⟨q, hq⟩ : ∃ q, w.heap.size = q := ⟨_, rfl⟩
    rw [hq] at HC q0
    try simp only [hq]
    clear hq
    generalize w.alloc (.cells #[.int .i64 n] 3) = w1 at *
    refine HC.out.mono ?_
    rintro e w2 ⟨rfl, hx2⟩
    have HX2 := hid_ hx2
    clear hx2
    go_wp2_with fail
    go_loopw [12] (fun i' wr => ∃ (i : Nat), i ≤ l.length ∧ i' = .int .i64 i ∧ Hid (dupK l i = false) ∧ Hid (Ex w2 wr)) (fun i' _ => l.length - (intOf i').toNat)
    case atStart => exact ⟨0, by omega, rfl, hid_ rfl, hid_ (Ex.refl _)⟩
    case round =>
      obtain ⟨i, hi, rfl, hd, hex⟩ := hrel
      have HX2 := hid_ (HX2.out.trans hex.out)
      by_cases hil : i < l.length
      · obtain ⟨x, hx⟩ : ∃ x, l[i]? = some x := ⟨_, List.getElem?_eq_getElem hil⟩
        have HLW := hid_ (HL.out.ex HX2.out)
        obtain ⟨_, _, e1, _, _, h3⟩ := HLW.out.open
        injection e1 with e1 e2 e3
        subst e1
        clear e2 e3
        obtain ⟨zb, zo, rfl, hzc⟩ := h3 (by omega)
        have c1 := hzc i x hx
        have hgx : l.getD i 0 = x := by rw [List.getD_eq_getElem?_getD, hx]; rfl
        have i1 : (0 : Int) ≤ (i : Int) := by omega
        have i2 : (i : Int) < (l.length : Int) := by omega
        have i3 : i ≤ cap := by omega
        have i4 : (i : Int) ≤ (cap : Int) := by omega
        have HCT := hid_ (Contains_any wr (l.take i) _ x (isl_take HLW.out (by omega)))
        have HDS := hid_ (dupK_succ l i)
        rw [hgx, hd.out, Bool.false_or] at HDS
        clear hx h3 hzc hgx hd
        cases hb : (l.take i).contains x with
        | true =>
          rw [hb] at HCT HDS
          have HR := hid_ (show (18 : Int) = injS l n from by
            have hd2 : dupB l = true := dupK_mono (show i + 1 ≤ l.length by omega) HDS.out
            rw [HIS.out, if_pos hd2])
          clear hb
          go_wp2_with (go_at_call 109; refine HCT.out.mono ?_; rintro e w5 ⟨rfl, rfl⟩)
          go_ret
          exact ⟨ret_int HR.out, HEA.out.trans HX2.out⟩
        | false =>
          rw [hb] at HCT HDS
          clear hb
          go_wp2_with (go_at_call 109; refine HCT.out.mono ?_; rintro e w5 ⟨rfl, rfl⟩)
          go_roundw
          case rel => first | exact ⟨i + 1, by omega, by go_num, HDS, hex⟩ | ((repeat apply Exists.intro); exact ⟨⟨i + 1, by omega, by go_num, HDS, hex⟩, rfl⟩)
          case measure => simp [intOf]; omega
      · obtain rfl : i = l.length := by omega
        have HR := hid_ (show (0 : Int) = injS l n from by
          rw [HIS.out, if_neg (by show ¬ dupK l l.length = true; rw [hd.out]; decide)])
        go_wp2_with fail
        go_ret
        exact ⟨ret_int HR.out, HEA.out.trans HX2.out⟩
  · have hr : rngB l n = false := by simpa using hr
    have h1 : (l.any fun x => !decide (0 ≤ x ∧ x < n)) = true := by
      unfold rngB at hr
      rw [List.all_eq_false] at hr
      obtain ⟨x, hx, h⟩ := hr
      exact List.any_eq_true.2 ⟨x, hx, by simp at h ⊢; omega⟩
    rw [h1] at HC
    have HR := hid_ (show (6 : Int) = injS l n from by unfold injS; rw [if_pos hr])
    clear hr h1
    go_enter Tryz.func88, Tryz.ntmps88
    go_wp2_with (go_at_call 47; refine HC.out.mono ?_; rintro e w2 ⟨rfl, hx2⟩; have HX2 := hid_ hx2; clear hx2)
    go_ret
    exact ⟨ret_int HR.out, HEA.out.trans HX2.out⟩
/-- Elements other than 0. -/
def facS (q : Nat) (l : List Int) : Int := if (l.any fun x => !isB q x) = true then 2 else if l.contains 0 = true then 7 else 0
section
variable {b p m x0 : Nat} {ml : List Int}
set_option maxRecDepth 100000 in
set_option maxHeartbeats 1000000 in
theorem fac1_any (w : World) (B : Nat) (hg : GFat w b p m ml x0) (x : Int) (c0 : w.cell? ⟨B, 0, none⟩ = some (.pointer (some ⟨b, 0, none⟩))) :
    Calls Tryz.prog 139 #[.int .i64 x, .pointer (some ⟨B, 0, none⟩)] w fun r w' => r = .returned (.bool (!isB (p ^ m) x)) ∧ Ex w w' := by
  have HI := hid_ (Is_any w hg x)
  obtain ⟨z, hz⟩ : ∃ z, isB (p ^ m) x = z := ⟨_, rfl⟩
  rw [hz] at HI ⊢
  clear hg hz
  go_enter Tryz.func139, Tryz.ntmps139
  go_wp2_with (go_at_call 49; refine HI.out.mono ?_; rintro e w1 ⟨rfl, n1, rfl⟩)
  go_ret
  exact ⟨rfl, (Ex.refl w).drewN _⟩
set_option maxRecDepth 100000 in
set_option maxHeartbeats 2000000 in
theorem factors_any (w : World) (hg : GFat w b p m ml x0) (l : List Int) (v : Value) (hl : ISl w v l) :
    Calls Tryz.prog 89 #[.pointer (some ⟨b, 0, none⟩), v] w fun r w' => r = .returned (.int .i64 (facS (p ^ m) l)) ∧ Ex w w' := by
  have ea : Ex w (w.alloc (.cells #[.pointer (some ⟨b, 0, none⟩)] 79)) := (Ex.refl _).alloc _
  have q0 : (w.alloc (.cells #[.pointer (some ⟨b, 0, none⟩)] 79)).cell? ⟨w.heap.size, 0, none⟩ = some (.pointer (some ⟨b, 0, none⟩)) := by simp
  have hc := ContainsFunc_fac (w.alloc (.cells #[.pointer (some ⟨b, 0, none⟩)] 79)) (.pointer (some ⟨w.heap.size, 0, none⟩)) v l.length (ints l) (hl.ex ea) (fun j => !isB (p ^ m) (l.getD j 0)) fun w1 i u hx hu => by
    obtain ⟨x, _, rfl, hx2⟩ := ints_at hu
    rw [hx2]
    exact fac1_any w1 w.heap.size (hg.ex (ea.trans hx)) x (hx.cell q0)
  rw [any_getD l fun x => !isB (p ^ m) x] at hc
  have HC := hid_ hc
  have HCT := hid_ (fun w1 (hx : Ex w w1) => Contains_any w1 l v 0 (hl.ex hx))
  obtain ⟨a, cap, rfl, s1, s2, s3⟩ := hl.open
  unfold maxLen at s2
  have HEA := hid_ ea
  obtain ⟨R, hR⟩ : ∃ R, facS (p ^ m) l = R := ⟨_, rfl⟩
  have hR2 := hR
  unfold facS at hR2
  rw [hR]
  obtain ⟨y, hy⟩ : ∃ y, (l.any fun x => !isB (p ^ m) x) = y := ⟨_, rfl⟩
  obtain ⟨z, hz⟩ : ∃ z, l.contains 0 = z := ⟨_, rfl⟩
  rw [hy] at HC hR2
  rw [hz] at hR2 HCT
  clear hl s3 hc ea hy hz hR hg
  cases y with
  | true =>
    rw [if_pos rfl] at hR2
    subst hR2
    go_enter Tryz.func89, Tryz.ntmps89
    go_wp2_with (go_at_call 47; refine HC.out.mono ?_; rintro e w2 ⟨rfl, hx2⟩; have HX2 := hid_ hx2; clear hx2)
    go_ret
    exact ⟨rfl, HEA.out.trans HX2.out⟩
  | false =>
    rw [if_neg (by decide)] at hR2
    cases z with
    | true =>
      rw [if_pos rfl] at hR2
      subst hR2
      go_enter Tryz.func89, Tryz.ntmps89
      go_wp2_with (first | (go_at_call 47; refine HC.out.mono ?_; rintro e w2 ⟨rfl, hx2⟩; have HX2 := hid_ (HEA.out.trans hx2); clear hx2) | (go_at_call 109; refine (HCT.out _ HX2.out).mono ?_; rintro e w5 ⟨rfl, rfl⟩))
      go_ret
      exact ⟨rfl, HX2.out⟩
    | false =>
      rw [if_neg (by decide)] at hR2
      subst hR2
      go_enter Tryz.func89, Tryz.ntmps89
      go_wp2_with (first | (go_at_call 47; refine HC.out.mono ?_; rintro e w2 ⟨rfl, hx2⟩; have HX2 := hid_ (HEA.out.trans hx2); clear hx2) | (go_at_call 109; refine (HCT.out _ HX2.out).mono ?_; rintro e w5 ⟨rfl, rfl⟩))
      go_ret
      exact ⟨rfl, HX2.out⟩
end

/-- The error of a monomial map. -/
def monS (p m : Int) (ml : List Int) (n : Int) (pl sl : List Int) (fr : Int) : Int :=
  if chkS p m ml ≠ 0 then 1 else if n < 1 ∨ 64 < n then 4 else if (pl.length : Int) ≠ n ∨ (sl.length : Int) ≠ n then 3 else
  if rngB pl n = false ∨ fr < 0 ∨ m ≤ fr then 6 else if dupB pl = true then 18 else facS (p.toNat ^ m.toNat) sl
theorem boxF_facts (w : World) (p m : Int) (v : Value) : (w.alloc (.cells #[.int .i64 p, .int .i64 m, v] 24)).cell? ⟨w.heap.size, 0, none⟩ = some (.int .i64 p) ∧ (w.alloc (.cells #[.int .i64 p, .int .i64 m, v] 24)).cell? ⟨w.heap.size, 1, none⟩ = some (.int .i64 m) ∧
    (w.alloc (.cells #[.int .i64 p, .int .i64 m, v] 24)).cell? ⟨w.heap.size, 2, none⟩ = some v ∧ Ex w (w.alloc (.cells #[.int .i64 p, .int .i64 m, v] 24)) := ⟨by simp, by simp, by simp, (Ex.refl _).alloc _⟩
theorem boxMo_facts (w : World) (u v : Value) (fr : Int) : (w.alloc (.cells #[u, v, .int .i64 fr] 26)).cell? ⟨w.heap.size, 0, none⟩ = some u ∧ (w.alloc (.cells #[u, v, .int .i64 fr] 26)).cell? ⟨w.heap.size, 1, none⟩ = some v ∧
    (w.alloc (.cells #[u, v, .int .i64 fr] 26)).cell? ⟨w.heap.size, 2, none⟩ = some (.int .i64 fr) ∧ Ex w (w.alloc (.cells #[u, v, .int .i64 fr] 26)) := ⟨by simp, by simp, by simp, (Ex.refl _).alloc _⟩
/-- What equivalence.open hands back. -/
def OpnR (p m : Int) (ml : List Int) (e : Int) (r : Ending) (w' : World) : Prop :=
  (e = 0 ∧ ∃ (b pn mn x0 : Nat), p = pn ∧ m = mn ∧ r = .returned (.tuple #[.pointer (some ⟨b, 0, none⟩), .int .i64 0]) ∧ GFat w' b pn mn ml x0 ∧ 1 ≤ x0 ∧ x0 < pn ^ mn) ∨
  (e ≠ 0 ∧ ∃ ptr : Option Addr, r = .returned (.tuple #[.pointer ptr, .int .i64 e]))
theorem opn_no {p m : Int} {ml : List Int} {e : Int} (h : e ≠ 0) (ptr : Option Addr) (w' : World) : OpnR p m ml e (.returned (.tuple #[.pointer ptr, .int .i64 e])) w' := .inr ⟨h, ptr, rfl⟩
end Go.Proofs.YtgdmlmhpineibaaGreat
