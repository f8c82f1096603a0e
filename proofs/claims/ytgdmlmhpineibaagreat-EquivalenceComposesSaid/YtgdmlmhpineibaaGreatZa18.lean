/- slices.IndexFunc and slices.ContainsFunc at the chapter's closures (printed by gen_finde.py). -/
/- Walks of matrix.add and of the field's Scale. -/
import Derived.Test.YtgdmlmhpineibaaGreatZa16
import Derived.Test.YtgdmlmhpineibaaGreatZa17
namespace Go.Proofs.YtgdmlmhpineibaaGreat
set_option linter.unusedVariables false
set_option linter.unusedSimpArgs false
open Go.RowKit

set_option maxRecDepth 100000 in
set_option maxHeartbeats 1000000 in
theorem IndexFunc_inj (w : World) (p0 : Value) (v : Value) (n : Nat) (us : List Value) (hv : Sl w v n 1 us) (pr : Nat → Bool)
    (hp : ∀ (w1 : World) (i : Nat) (u : Value), Ex w w1 → us[i]? = some u → Calls Tryz.prog 138 #[u, p0] w1 fun e w' => e = .returned (.bool (pr i)) ∧ Ex w1 w') :
    Calls Tryz.prog 90 #[v, .func (.func 138) #[] #[p0]] w fun r w' => r = .returned (.int .i64 (fstI pr n)) ∧ Ex w w' := by
  obtain ⟨hl, a, cap, rfl, s1, s2, s3⟩ := hv
  rw [Nat.mul_one] at hl
  have S3 := hid_ s3
  have HP := hid_ hp
  have HL := hid_ hl
  unfold maxLen at s2
  clear s3 hp hl
  go_enter Tryz.func90, Tryz.ntmps90
  go_wp2_with fail
  go_loopg [5, 8] n (fun gg _ i' wr => ∃ i : Nat, i ≤ n ∧ n - i ≤ gg ∧ i' = .int .i64 i ∧ Hid (Ex w wr) ∧ Hid (∀ j, j < i → pr j = false))
  case atStart => exact ⟨0, by omega, by omega, rfl, hid_ (Ex.refl _), hid_ (fun j hj => by omega)⟩
  case round =>
    obtain ⟨i, hi, hg, rfl, hex, hall⟩ := hrel
    by_cases hlt : i < n
    · obtain ⟨u, hu⟩ : ∃ u, us[i]? = some u := ⟨_, List.getElem?_eq_getElem (by rw [HL.out]; exact hlt)⟩
      obtain ⟨bb, o, rfl, hc⟩ := S3.out (by omega)
      have c1 := hex.out.cell (hc i u hu)
      have HC := hid_ (HP.out wr i u hex.out hu)
      have hlt' : (i : Int) < (n : Int) := by omega
      clear hc hu
      cases hb : pr i with
      | true =>
        rw [hb] at HC
        have HF := hid_ (fstI_hit hlt hb hall.out)
        clear hb
        go_wp2_with (go_at_call 138; refine HC.out.mono ?_; rintro e w' ⟨rfl, hx⟩; have HX := hid_ (hex.out.trans hx); clear hx)
        go_ret
        exact ⟨ret_int HF.out.symm, HX.out⟩
      | false =>
        rw [hb] at HC
        have HA := hid_ (show ∀ j, j < i + 1 → pr j = false from fun j hj => by
          by_cases e : j = i
          · subst e; exact hb
          · exact hall.out j (by omega))
        clear hb
        go_wp2_with (go_at_call 138; refine HC.out.mono ?_; rintro e w' ⟨rfl, hx⟩; have HX := hid_ (hex.out.trans hx); clear hx)
        go_roundg (n - (i + 1))
        case measure => omega
        case rel => exact ⟨i + 1, by omega, by omega, by go_num, HX, HA⟩
    · obtain rfl : i = n := by omega
      have HF := hid_ (fstI_miss hall.out)
      go_wp2_with fail
      go_ret
      exact ⟨ret_int HF.out.symm, hex.out⟩
set_option maxRecDepth 100000 in
set_option maxHeartbeats 1000000 in
theorem ContainsFunc_inj (w : World) (p0 : Value) (v : Value) (n : Nat) (us : List Value) (hv : Sl w v n 1 us) (pr : Nat → Bool)
    (hp : ∀ (w1 : World) (i : Nat) (u : Value), Ex w w1 → us[i]? = some u → Calls Tryz.prog 138 #[u, p0] w1 fun e w' => e = .returned (.bool (pr i)) ∧ Ex w1 w') :
    Calls Tryz.prog 47 #[v, .func (.func 138) #[] #[p0]] w fun r w' => r = .returned (.bool ((List.range n).any pr)) ∧ Ex w w' := by
  have HC := hid_ (IndexFunc_inj w p0 v n us hv pr hp)
  have HB := hid_ (fstI_any pr n)
  obtain ⟨z, hz⟩ : ∃ z, fstI pr n = z := ⟨_, rfl⟩
  rw [hz] at HC HB
  clear hz hp hv
  go_enter Tryz.func47, Tryz.ntmps47
  go_wp2_with (go_at_call 90; refine HC.out.mono ?_; rintro e w' ⟨rfl, hx⟩; have HX := hid_ hx; clear hx)
  go_ret
  exact ⟨ret_bool HB.out.symm, HX.out⟩
set_option maxRecDepth 100000 in
set_option maxHeartbeats 1000000 in
theorem IndexFunc_fac (w : World) (p0 : Value) (v : Value) (n : Nat) (us : List Value) (hv : Sl w v n 1 us) (pr : Nat → Bool)
    (hp : ∀ (w1 : World) (i : Nat) (u : Value), Ex w w1 → us[i]? = some u → Calls Tryz.prog 139 #[u, p0] w1 fun e w' => e = .returned (.bool (pr i)) ∧ Ex w1 w') :
    Calls Tryz.prog 90 #[v, .func (.func 139) #[] #[p0]] w fun r w' => r = .returned (.int .i64 (fstI pr n)) ∧ Ex w w' := by
  obtain ⟨hl, a, cap, rfl, s1, s2, s3⟩ := hv
  rw [Nat.mul_one] at hl
  have S3 := hid_ s3
  have HP := hid_ hp
  have HL := hid_ hl
  unfold maxLen at s2
  clear s3 hp hl
  go_enter Tryz.func90, Tryz.ntmps90
  go_wp2_with fail
  go_loopg [5, 8] n (fun gg _ i' wr => ∃ i : Nat, i ≤ n ∧ n - i ≤ gg ∧ i' = .int .i64 i ∧ Hid (Ex w wr) ∧ Hid (∀ j, j < i → pr j = false))
  case atStart => exact ⟨0, by omega, by omega, rfl, hid_ (Ex.refl _), hid_ (fun j hj => by omega)⟩
  case round =>
    obtain ⟨i, hi, hg, rfl, hex, hall⟩ := hrel
    by_cases hlt : i < n
    · obtain ⟨u, hu⟩ : ∃ u, us[i]? = some u := ⟨_, List.getElem?_eq_getElem (by rw [HL.out]; exact hlt)⟩
      obtain ⟨bb, o, rfl, hc⟩ := S3.out (by omega)
      have c1 := hex.out.cell (hc i u hu)
      have HC := hid_ (HP.out wr i u hex.out hu)
      have hlt' : (i : Int) < (n : Int) := by omega
      clear hc hu
      cases hb : pr i with
      | true =>
        rw [hb] at HC
        have HF := hid_ (fstI_hit hlt hb hall.out)
        clear hb
        go_wp2_with (go_at_call 139; refine HC.out.mono ?_; rintro e w' ⟨rfl, hx⟩; have HX := hid_ (hex.out.trans hx); clear hx)
        go_ret
        exact ⟨ret_int HF.out.symm, HX.out⟩
      | false =>
        rw [hb] at HC
        have HA := hid_ (show ∀ j, j < i + 1 → pr j = false from fun j hj => by
          by_cases e : j = i
          · subst e; exact hb
          · exact hall.out j (by omega))
        clear hb
        go_wp2_with (go_at_call 139; refine HC.out.mono ?_; rintro e w' ⟨rfl, hx⟩; have HX := hid_ (hex.out.trans hx); clear hx)
        go_roundg (n - (i + 1))
        case measure => omega
        case rel => exact ⟨i + 1, by omega, by omega, by go_num, HX, HA⟩
    · obtain rfl : i = n := by omega
      have HF := hid_ (fstI_miss hall.out)
      go_wp2_with fail
      go_ret
      exact ⟨ret_int HF.out.symm, hex.out⟩
set_option maxRecDepth 100000 in
set_option maxHeartbeats 1000000 in
theorem ContainsFunc_fac (w : World) (p0 : Value) (v : Value) (n : Nat) (us : List Value) (hv : Sl w v n 1 us) (pr : Nat → Bool)
    (hp : ∀ (w1 : World) (i : Nat) (u : Value), Ex w w1 → us[i]? = some u → Calls Tryz.prog 139 #[u, p0] w1 fun e w' => e = .returned (.bool (pr i)) ∧ Ex w1 w') :
    Calls Tryz.prog 47 #[v, .func (.func 139) #[] #[p0]] w fun r w' => r = .returned (.bool ((List.range n).any pr)) ∧ Ex w w' := by
  have HC := hid_ (IndexFunc_fac w p0 v n us hv pr hp)
  have HB := hid_ (fstI_any pr n)
  obtain ⟨z, hz⟩ : ∃ z, fstI pr n = z := ⟨_, rfl⟩
  rw [hz] at HC HB
  clear hz hp hv
  go_enter Tryz.func47, Tryz.ntmps47
  go_wp2_with (go_at_call 90; refine HC.out.mono ?_; rintro e w' ⟨rfl, hx⟩; have HX := hid_ hx; clear hx)
  go_ret
  exact ⟨ret_bool HB.out.symm, HX.out⟩
set_option maxRecDepth 100000 in
set_option maxHeartbeats 1000000 in
theorem IndexFunc_wrd (w : World) (p0 : Value) (v : Value) (n : Nat) (us : List Value) (hv : Sl w v n 1 us) (pr : Nat → Bool)
    (hp : ∀ (w1 : World) (i : Nat) (u : Value), Ex w w1 → us[i]? = some u → Calls Tryz.prog 48 #[u, p0] w1 fun e w' => e = .returned (.bool (pr i)) ∧ Ex w1 w') :
    Calls Tryz.prog 90 #[v, .func (.func 48) #[] #[p0]] w fun r w' => r = .returned (.int .i64 (fstI pr n)) ∧ Ex w w' := by
  obtain ⟨hl, a, cap, rfl, s1, s2, s3⟩ := hv
  rw [Nat.mul_one] at hl
  have S3 := hid_ s3
  have HP := hid_ hp
  have HL := hid_ hl
  unfold maxLen at s2
  clear s3 hp hl
  go_enter Tryz.func90, Tryz.ntmps90
  go_wp2_with fail
  go_loopg [5, 8] n (fun gg _ i' wr => ∃ i : Nat, i ≤ n ∧ n - i ≤ gg ∧ i' = .int .i64 i ∧ Hid (Ex w wr) ∧ Hid (∀ j, j < i → pr j = false))
  case atStart => exact ⟨0, by omega, by omega, rfl, hid_ (Ex.refl _), hid_ (fun j hj => by omega)⟩
  case round =>
    obtain ⟨i, hi, hg, rfl, hex, hall⟩ := hrel
    by_cases hlt : i < n
    · obtain ⟨u, hu⟩ : ∃ u, us[i]? = some u := ⟨_, List.getElem?_eq_getElem (by rw [HL.out]; exact hlt)⟩
      obtain ⟨bb, o, rfl, hc⟩ := S3.out (by omega)
      have c1 := hex.out.cell (hc i u hu)
      have HC := hid_ (HP.out wr i u hex.out hu)
      have hlt' : (i : Int) < (n : Int) := by omega
      clear hc hu
      cases hb : pr i with
      | true =>
        rw [hb] at HC
        have HF := hid_ (fstI_hit hlt hb hall.out)
        clear hb
        go_wp2_with (go_at_call 48; refine HC.out.mono ?_; rintro e w' ⟨rfl, hx⟩; have HX := hid_ (hex.out.trans hx); clear hx)
        go_ret
        exact ⟨ret_int HF.out.symm, HX.out⟩
      | false =>
        rw [hb] at HC
        have HA := hid_ (show ∀ j, j < i + 1 → pr j = false from fun j hj => by
          by_cases e : j = i
          · subst e; exact hb
          · exact hall.out j (by omega))
        clear hb
        go_wp2_with (go_at_call 48; refine HC.out.mono ?_; rintro e w' ⟨rfl, hx⟩; have HX := hid_ (hex.out.trans hx); clear hx)
        go_roundg (n - (i + 1))
        case measure => omega
        case rel => exact ⟨i + 1, by omega, by omega, by go_num, HX, HA⟩
    · obtain rfl : i = n := by omega
      have HF := hid_ (fstI_miss hall.out)
      go_wp2_with fail
      go_ret
      exact ⟨ret_int HF.out.symm, hex.out⟩
set_option maxRecDepth 100000 in
set_option maxHeartbeats 1000000 in
theorem ContainsFunc_wrd (w : World) (p0 : Value) (v : Value) (n : Nat) (us : List Value) (hv : Sl w v n 1 us) (pr : Nat → Bool)
    (hp : ∀ (w1 : World) (i : Nat) (u : Value), Ex w w1 → us[i]? = some u → Calls Tryz.prog 48 #[u, p0] w1 fun e w' => e = .returned (.bool (pr i)) ∧ Ex w1 w') :
    Calls Tryz.prog 47 #[v, .func (.func 48) #[] #[p0]] w fun r w' => r = .returned (.bool ((List.range n).any pr)) ∧ Ex w w' := by
  have HC := hid_ (IndexFunc_wrd w p0 v n us hv pr hp)
  have HB := hid_ (fstI_any pr n)
  obtain ⟨z, hz⟩ : ∃ z, fstI pr n = z := ⟨_, rfl⟩
  rw [hz] at HC HB
  clear hz hp hv
  go_enter Tryz.func47, Tryz.ntmps47
  go_wp2_with (go_at_call 90; refine HC.out.mono ?_; rintro e w' ⟨rfl, hx⟩; have HX := hid_ hx; clear hx)
  go_ret
  exact ⟨ret_bool HB.out.symm, HX.out⟩
set_option maxRecDepth 100000 in
set_option maxHeartbeats 1000000 in
theorem IndexFunc_shw (w : World) (p0 : Value) (v : Value) (n : Nat) (us : List Value) (hv : Sl w v n 1 us) (pr : Nat → Bool)
    (hp : ∀ (w1 : World) (i : Nat) (u : Value), Ex w w1 → us[i]? = some u → Calls Tryz.prog 111 #[u, p0] w1 fun e w' => e = .returned (.bool (pr i)) ∧ Ex w1 w') :
    Calls Tryz.prog 90 #[v, .func (.func 111) #[] #[p0]] w fun r w' => r = .returned (.int .i64 (fstI pr n)) ∧ Ex w w' := by
  obtain ⟨hl, a, cap, rfl, s1, s2, s3⟩ := hv
  rw [Nat.mul_one] at hl
  have S3 := hid_ s3
  have HP := hid_ hp
  have HL := hid_ hl
  unfold maxLen at s2
  clear s3 hp hl
  go_enter Tryz.func90, Tryz.ntmps90
  go_wp2_with fail
  go_loopg [5, 8] n (fun gg _ i' wr => ∃ i : Nat, i ≤ n ∧ n - i ≤ gg ∧ i' = .int .i64 i ∧ Hid (Ex w wr) ∧ Hid (∀ j, j < i → pr j = false))
  case atStart => exact ⟨0, by omega, by omega, rfl, hid_ (Ex.refl _), hid_ (fun j hj => by omega)⟩
  case round =>
    obtain ⟨i, hi, hg, rfl, hex, hall⟩ := hrel
    by_cases hlt : i < n
    · obtain ⟨u, hu⟩ : ∃ u, us[i]? = some u := ⟨_, List.getElem?_eq_getElem (by rw [HL.out]; exact hlt)⟩
      obtain ⟨bb, o, rfl, hc⟩ := S3.out (by omega)
      have c1 := hex.out.cell (hc i u hu)
      have HC := hid_ (HP.out wr i u hex.out hu)
      have hlt' : (i : Int) < (n : Int) := by omega
      clear hc hu
      cases hb : pr i with
      | true =>
        rw [hb] at HC
        have HF := hid_ (fstI_hit hlt hb hall.out)
        clear hb
        go_wp2_with (go_at_call 111; refine HC.out.mono ?_; rintro e w' ⟨rfl, hx⟩; have HX := hid_ (hex.out.trans hx); clear hx)
        go_ret
        exact ⟨ret_int HF.out.symm, HX.out⟩
      | false =>
        rw [hb] at HC
        have HA := hid_ (show ∀ j, j < i + 1 → pr j = false from fun j hj => by
          by_cases e : j = i
          · subst e; exact hb
          · exact hall.out j (by omega))
        clear hb
        go_wp2_with (go_at_call 111; refine HC.out.mono ?_; rintro e w' ⟨rfl, hx⟩; have HX := hid_ (hex.out.trans hx); clear hx)
        go_roundg (n - (i + 1))
        case measure => omega
        case rel => exact ⟨i + 1, by omega, by omega, by go_num, HX, HA⟩
    · obtain rfl : i = n := by omega
      have HF := hid_ (fstI_miss hall.out)
      go_wp2_with fail
      go_ret
      exact ⟨ret_int HF.out.symm, hex.out⟩
set_option maxRecDepth 100000 in
set_option maxHeartbeats 1000000 in
theorem ContainsFunc_shw (w : World) (p0 : Value) (v : Value) (n : Nat) (us : List Value) (hv : Sl w v n 1 us) (pr : Nat → Bool)
    (hp : ∀ (w1 : World) (i : Nat) (u : Value), Ex w w1 → us[i]? = some u → Calls Tryz.prog 111 #[u, p0] w1 fun e w' => e = .returned (.bool (pr i)) ∧ Ex w1 w') :
    Calls Tryz.prog 47 #[v, .func (.func 111) #[] #[p0]] w fun r w' => r = .returned (.bool ((List.range n).any pr)) ∧ Ex w w' := by
  have HC := hid_ (IndexFunc_shw w p0 v n us hv pr hp)
  have HB := hid_ (fstI_any pr n)
  obtain ⟨z, hz⟩ : ∃ z, fstI pr n = z := ⟨_, rfl⟩
  rw [hz] at HC HB
  clear hz hp hv
  go_enter Tryz.func47, Tryz.ntmps47
  go_wp2_with (go_at_call 90; refine HC.out.mono ?_; rintro e w' ⟨rfl, hx⟩; have HX := hid_ hx; clear hx)
  go_ret
  exact ⟨ret_bool HB.out.symm, HX.out⟩
set_option maxRecDepth 100000 in
set_option maxHeartbeats 1000000 in
theorem IndexFunc_red (w : World) (v : Value) (n : Nat) (us : List Value) (hv : Sl w v n 1 us) (pr : Nat → Bool)
    (hp : ∀ (w1 : World) (i : Nat) (u : Value), Ex w w1 → us[i]? = some u → Calls Tryz.prog 173 #[u] w1 fun e w' => e = .returned (.bool (pr i)) ∧ Ex w1 w') :
    Calls Tryz.prog 90 #[v, .func (.func 173) #[] #[]] w fun r w' => r = .returned (.int .i64 (fstI pr n)) ∧ Ex w w' := by
  obtain ⟨hl, a, cap, rfl, s1, s2, s3⟩ := hv
  rw [Nat.mul_one] at hl
  have S3 := hid_ s3
  have HP := hid_ hp
  have HL := hid_ hl
  unfold maxLen at s2
  clear s3 hp hl
  go_enter Tryz.func90, Tryz.ntmps90
  go_wp2_with fail
  go_loopg [5, 8] n (fun gg _ i' wr => ∃ i : Nat, i ≤ n ∧ n - i ≤ gg ∧ i' = .int .i64 i ∧ Hid (Ex w wr) ∧ Hid (∀ j, j < i → pr j = false))
  case atStart => exact ⟨0, by omega, by omega, rfl, hid_ (Ex.refl _), hid_ (fun j hj => by omega)⟩
  case round =>
    obtain ⟨i, hi, hg, rfl, hex, hall⟩ := hrel
    by_cases hlt : i < n
    · obtain ⟨u, hu⟩ : ∃ u, us[i]? = some u := ⟨_, List.getElem?_eq_getElem (by rw [HL.out]; exact hlt)⟩
      obtain ⟨bb, o, rfl, hc⟩ := S3.out (by omega)
      have c1 := hex.out.cell (hc i u hu)
      have HC := hid_ (HP.out wr i u hex.out hu)
      have hlt' : (i : Int) < (n : Int) := by omega
      clear hc hu
      cases hb : pr i with
      | true =>
        rw [hb] at HC
        have HF := hid_ (fstI_hit hlt hb hall.out)
        clear hb
        go_wp2_with (go_at_call 173; refine HC.out.mono ?_; rintro e w' ⟨rfl, hx⟩; have HX := hid_ (hex.out.trans hx); clear hx)
        go_ret
        exact ⟨ret_int HF.out.symm, HX.out⟩
      | false =>
        rw [hb] at HC
        have HA := hid_ (show ∀ j, j < i + 1 → pr j = false from fun j hj => by
          by_cases e : j = i
          · subst e; exact hb
          · exact hall.out j (by omega))
        clear hb
        go_wp2_with (go_at_call 173; refine HC.out.mono ?_; rintro e w' ⟨rfl, hx⟩; have HX := hid_ (hex.out.trans hx); clear hx)
        go_roundg (n - (i + 1))
        case measure => omega
        case rel => exact ⟨i + 1, by omega, by omega, by go_num, HX, HA⟩
    · obtain rfl : i = n := by omega
      have HF := hid_ (fstI_miss hall.out)
      go_wp2_with fail
      go_ret
      exact ⟨ret_int HF.out.symm, hex.out⟩
set_option maxRecDepth 100000 in
set_option maxHeartbeats 1000000 in
theorem IndexFunc_mis (w : World) (p0 : Value) (v : Value) (n : Nat) (us : List Value) (hv : Sl w v n 1 us) (pr : Nat → Bool)
    (hp : ∀ (w1 : World) (i : Nat) (u : Value), Ex w w1 → us[i]? = some u → Calls Tryz.prog 154 #[u, p0] w1 fun e w' => e = .returned (.bool (pr i)) ∧ Ex w1 w') :
    Calls Tryz.prog 153 #[v, .func (.func 154) #[] #[p0]] w fun r w' => r = .returned (.int .i64 (fstI pr n)) ∧ Ex w w' := by
  obtain ⟨hl, a, cap, rfl, s1, s2, s3⟩ := hv
  rw [Nat.mul_one] at hl
  have S3 := hid_ s3
  have HP := hid_ hp
  have HL := hid_ hl
  unfold maxLen at s2
  clear s3 hp hl
  go_enter Tryz.func153, Tryz.ntmps153
  go_wp2_with fail
  go_loopg [5, 8] n (fun gg _ i' wr => ∃ i : Nat, i ≤ n ∧ n - i ≤ gg ∧ i' = .int .i64 i ∧ Hid (Ex w wr) ∧ Hid (∀ j, j < i → pr j = false))
  case atStart => exact ⟨0, by omega, by omega, rfl, hid_ (Ex.refl _), hid_ (fun j hj => by omega)⟩
  case round =>
    obtain ⟨i, hi, hg, rfl, hex, hall⟩ := hrel
    by_cases hlt : i < n
    · obtain ⟨u, hu⟩ : ∃ u, us[i]? = some u := ⟨_, List.getElem?_eq_getElem (by rw [HL.out]; exact hlt)⟩
      obtain ⟨bb, o, rfl, hc⟩ := S3.out (by omega)
      have c1 := hex.out.cell (hc i u hu)
      have HC := hid_ (HP.out wr i u hex.out hu)
      have hlt' : (i : Int) < (n : Int) := by omega
      clear hc hu
      cases hb : pr i with
      | true =>
        rw [hb] at HC
        have HF := hid_ (fstI_hit hlt hb hall.out)
        clear hb
        go_wp2_with (go_at_call 154; refine HC.out.mono ?_; rintro e w' ⟨rfl, hx⟩; have HX := hid_ (hex.out.trans hx); clear hx)
        go_ret
        exact ⟨ret_int HF.out.symm, HX.out⟩
      | false =>
        rw [hb] at HC
        have HA := hid_ (show ∀ j, j < i + 1 → pr j = false from fun j hj => by
          by_cases e : j = i
          · subst e; exact hb
          · exact hall.out j (by omega))
        clear hb
        go_wp2_with (go_at_call 154; refine HC.out.mono ?_; rintro e w' ⟨rfl, hx⟩; have HX := hid_ (hex.out.trans hx); clear hx)
        go_roundg (n - (i + 1))
        case measure => omega
        case rel => exact ⟨i + 1, by omega, by omega, by go_num, HX, HA⟩
    · obtain rfl : i = n := by omega
      have HF := hid_ (fstI_miss hall.out)
      go_wp2_with fail
      go_ret
      exact ⟨ret_int HF.out.symm, hex.out⟩
end Go.Proofs.YtgdmlmhpineibaaGreat
namespace Go.Proofs.YtgdmlmhpineibaaGreat
set_option linter.unusedVariables false
set_option linter.unusedSimpArgs false
open Go.RowKit

theorem grow_trans {a b c : World} {row : Option Nat} (h : a.grownBy b row) (k : b.grownBy c row) : a.grownBy c row :=
  ⟨k.os.trans h.os, k.tape.trans h.tape, k.output.trans h.output, Nat.le_trans h.size k.size, fun i hi hne => (k.block i (Nat.lt_of_lt_of_le hi h.size) hne).trans (h.block i hi hne)⟩
theorem grow_ex {a b : World} (row : Option Nat) (h : Ex a b) : a.grownBy b row := ⟨h.os, h.tape, h.output, h.size, fun i hi _ => h.block i hi⟩
theorem grow_set (w : World) (g j : Nat) (u : Value) : w.grownBy (w.setCell ⟨g, j, none⟩ u) (some g) := by
  have h : Below g w (w.setCell ⟨g, j, none⟩ u) := Below.setCell (Below.refl g w) (Nat.le_refl _) u
  refine ⟨h.os, h.tape, h.output, h.size, fun k hk hne => ?_⟩
  have hk' : k ≠ g := fun e => hne (by rw [e])
  by_cases hlt : k < g
  · exact h.block k hlt
  · exact Below.heap_setCell w ⟨g, j, none⟩ u k hk'
set_option maxRecDepth 100000 in
set_option maxHeartbeats 4000000 in
theorem madd_any {p m : Nat} {ml : List Int} {b x0 : Nat} (w0 w : World) (hg : GFat w0 b p m ml x0) (hx : Ex w0 w) (N vb cap base : Nat) (f u : Nat → Int) (a : Int) (uv : Value) (hb : w0.heap.size ≤ base) (hv : OwnC w base 3 vb N cap (iv f)) (hu : ISl w uv (il N u)) (hub : uv.ownBlock ≠ some vb) (hN : N ≤ 1000) :
    Calls Tryz.prog 160 #[.pointer (some ⟨b, 0, none⟩), .slice (some ⟨vb, 0, none⟩) N cap, .int .i64 a, uv] w fun r w' => (∃ t, r = .returned t) ∧ OwnC w' base 3 vb N cap (iv (addF p m ml f (kin (p ^ m) a) u)) ∧ w.grownBy w' (some vb) := by
  obtain ⟨ua, uc, rfl, u1, u2, u3⟩ := hu.open
  rw [il_len] at u1 u3 ⊢
  unfold maxLen at u2
  obtain ⟨c1, c2⟩ := hv.caps
  unfold maxLen at c2
  have U3 := hid_ u3
  have HUB := hid_ hub
  have HX := hid_ hx
  have HGF := hid_ hg
  have HV := hid_ hv
  have HO := hid_ (show OwnC w base 3 vb N cap (iv fun j => if j < 0 then addF p m ml f (kin (p ^ m) a) u j else f j) from hv.icongr fun j _ => by simp)
  clear u3 hu hub hv hx hg
  go_enter Tryz.func160, Tryz.ntmps160
  go_wp2_with fail
  go_loopw [12] (fun k' wr => ∃ k : Nat, k ≤ N ∧ k' = .int .i64 k ∧ Hid (OwnC wr base 3 vb N cap (iv fun j => if j < k then addF p m ml f (kin (p ^ m) a) u j else f j)) ∧ Hid (w.grownBy wr (some vb))) (fun k' _ => N - (intOf k').toNat)
  case atStart => exact ⟨0, by omega, rfl, HO, hid_ (World.grownBy.refl _ _)⟩
  case round =>
    clear HO
    obtain ⟨k, hk, rfl, hown, hgr⟩ := hrel
    by_cases hkl : k < N
    · obtain ⟨ub, uo, rfl, huc⟩ := U3.out (by omega)
      have hne : ub ≠ vb := fun e => HUB.out (by rw [e]; rfl)
      have d1 := hgr.out.cell (huc k (u k) (il_get hkl u)) (by intro e; injection e with e; exact hne e)
      have i1 : (0 : Int) ≤ (k : Int) := by omega
      have i2 : (k : Int) < (N : Int) := by omega
      have HEX := hid_ (Ex.grown HX.out HV.out hb hgr.out)
      clear huc hne
      by_cases h0 : u k = 0
      · have hb0 : (u k != 0) = false := by simp [h0]
        have HO2 := hid_ (show OwnC wr base 3 vb N cap (iv fun j => if j < k + 1 then addF p m ml f (kin (p ^ m) a) u j else f j) from hown.out.icongr fun j hj => by
          by_cases e : j = k
          · subst e; rw [if_neg (show ¬ j < j by omega), if_pos (show j < j + 1 by omega)]; unfold addF; rw [if_pos h0]
          · by_cases h : j < k
            · rw [if_pos h, if_pos (show j < k + 1 by omega)]
            · rw [if_neg h, if_neg (show ¬ j < k + 1 by omega)])
        clear hown h0
        go_wp2_with fail
        go_roundw
        case rel => exact ⟨k + 1, by omega, by go_num, HO2, hgr⟩
        case measure => simp [intOf]; omega
      · have hb0 : (u k != 0) = true := by simpa using h0
        have hcv : wr.cell? ⟨vb, k, none⟩ = some (.int .i64 (f k)) := by
          rw [hown.out.cell hkl]; show some (Value.int .i64 (if k < k then _ else f k)) = _; rw [if_neg (by omega)]
        have hfv := hown.out.frz k
        obtain ⟨K1, hK1⟩ : ∃ K, kmul p m (lw ml) (kin (p ^ m) a) (kin (p ^ m) (u k)) = K := ⟨_, rfl⟩
        have hK1l : K1 < p ^ m := by rw [← hK1]; exact kmul_lt (by have := HGF.out.sh.p2; omega) _ _
        have HMUL := hid_ (fun w' (h : Ex w0 w') => Mul_any w' (HGF.out.ex h) a (u k))
        rw [hK1] at HMUL
        obtain ⟨K2, hK2⟩ : ∃ K, kadd p m (kin (p ^ m) (f k)) (kin (p ^ m) (K1 : Nat)) = K := ⟨_, rfl⟩
        have HADD := hid_ (fun w' (h : Ex w0 w') => Add_any w' (HGF.out.ex h) (f k) (K1 : Nat))
        rw [hK2] at HADD
        have HAF := hid_ (show addF p m ml f (kin (p ^ m) a) u k = (K2 : Nat) from by
          unfold addF; rw [if_neg h0, hK1, ← hK2, kin_of hK1l])
        clear hK1 hK2 hK1l h0
        go_upto_region 4 with fail
        have E1 : Ex wr wr.drew := (Ex.refl wr).drew
        have G0 : Ex w0 wr.drew := HEX.out.trans E1
        go_region_law
          ((first
            | (go_simp; go_at_call 59; (with_reducible refine (HMUL.out _ (HEX.out.drewN _)).mono ?_); rintro e wx1 ⟨rfl, n1, rfl⟩)
            | (go_simp; go_at_call 59; (with_reducible refine (HMUL.out _ G0).mono ?_); rintro e wx1 ⟨rfl, n1, rfl⟩)
            | (go_simp; go_at_call 94; (with_reducible refine (HADD.out _ (HEX.out.drewN _)).mono ?_); rintro e wx2 ⟨rfl, n2, rfl⟩)))
        all_goals
          have HO2 := hid_ (fun n => ((hown.out.drewN n).set k (.int .i64 (K2 : Nat))))
          have HG2 := hid_ (fun n => grow_trans hgr.out (grow_trans (grow_ex (some vb) ((Ex.refl wr).drewN n)) (grow_set (wr.drewN n) vb k (.int .i64 (K2 : Nat)))))
          clear hown hgr HMUL HADD E1 G0 hcv hfv
          go_wp2_with fail
          go_roundw
          case rel => exact ⟨k + 1, by omega, by go_num, hid_ ((HO2.out _).congr fun j hj => by
            by_cases e : j = k
            · subst e; rw [upd_same]; show _ = Value.int .i64 (if j < j + 1 then addF p m ml f (kin (p ^ m) a) u j else f j); rw [if_pos (by omega), HAF.out]
            · rw [upd_ne _ _ e]; show Value.int .i64 (if j < k then addF p m ml f (kin (p ^ m) a) u j else f j) = Value.int .i64 (if j < k + 1 then addF p m ml f (kin (p ^ m) a) u j else f j)
              by_cases h : j < k
              · rw [if_pos h, if_pos (by omega)]
              · rw [if_neg h, if_neg (by omega)]), hid_ (HG2.out _)⟩
          case measure => simp [intOf]; omega
    · obtain rfl : N = k := by omega
      have HO2 := hid_ (show OwnC wr base 3 vb N cap (iv (addF p m ml f (kin (p ^ m) a) u)) from hown.out.icongr fun j hj => by rw [if_pos hj])
      clear hown
      go_wp2_with fail
      go_end0
      exact ⟨⟨_, rfl⟩, HO2.out, hgr.out⟩
set_option maxRecDepth 100000 in
set_option maxHeartbeats 4000000 in
theorem Scale_any {p m : Nat} {ml : List Int} {b x0 : Nat} (w : World) (hg : GFat w b p m ml x0) (N : Nat) (u : Nat → Int) (a : Int) (uv : Value) (hu : ISl w uv (il N u)) (hN : N ≤ 1000) :
    Calls Tryz.prog 152 #[.pointer (some ⟨b, 0, none⟩), .int .i64 a, uv] w fun r w' => ∃ g, r = .returned (.slice (some ⟨g, 0, none⟩) N N) ∧ Own w' w.heap.size 3 g N (iv (sclF p m ml (kin (p ^ m) a) u)) ∧ Ex w w' := by
  obtain ⟨ua, uc, rfl, u1, u2, u3⟩ := hu.open
  rw [il_len] at u1 u3 ⊢
  unfold maxLen at u2
  have U3 := hid_ u3
  have HGF := hid_ hg
  clear u3 hu hg
  go_enter Tryz.func152, Tryz.ntmps152
  go_wp2_with (at_make; refine wpList_make_arr _ rfl _ _ 22 rfl 3 (.int .i64 0) 8 Tryz.underlying22 infoInt rfl _ N rfl rfl rfl (by omega) (by unfold maxLen; omega) ?_)
  intro w3 hown hx3
  obtain ⟨g, hgg⟩ : ∃ g, w.heap.size = g := ⟨_, rfl⟩
  have HSZ := hid_ hgg
  rw [hgg] at hown ⊢
  try simp only [hgg]
  have HO := hid_ (show Own w3 g 3 g N (iv fun j => if j < 0 then sclF p m ml (kin (p ^ m) a) u j else 0) from hown.icongr fun j _ => by simp)
  have HX := hid_ hx3
  clear hown hx3 hgg
  go_wp2_with fail
  go_loopw [15] (fun k' wr => ∃ k : Nat, k ≤ N ∧ k' = .int .i64 k ∧ Hid (Own wr g 3 g N (iv fun j => if j < k then sclF p m ml (kin (p ^ m) a) u j else 0)) ∧ Hid (Ex w wr)) (fun k' _ => N - (intOf k').toNat)
  case atStart => exact ⟨0, by omega, rfl, HO, HX⟩
  case round =>
    clear HO HX
    obtain ⟨k, hk, rfl, hown, hx⟩ := hrel
    by_cases hkl : k < N
    · obtain ⟨ub, uo, rfl, huc⟩ := U3.out (by omega)
      have d1 := hx.out.cell (huc k (u k) (il_get hkl u))
      have i1 : (0 : Int) ≤ (k : Int) := by omega
      have i2 : (k : Int) < (N : Int) := by omega
      have hcv := hown.out.cell hkl
      have hfv := hown.out.frz k
      obtain ⟨K1, hK1⟩ : ∃ K, kmul p m (lw ml) (kin (p ^ m) a) (kin (p ^ m) (u k)) = K := ⟨_, rfl⟩
      have HMUL := hid_ (Mul_any wr (HGF.out.ex hx.out) a (u k))
      rw [hK1] at HMUL
      have HSC := hid_ (show sclF p m ml (kin (p ^ m) a) u k = (K1 : Nat) from by unfold sclF; rw [hK1])
      clear hK1 huc
      go_wp2_with (go_at_call 59; refine HMUL.out.mono ?_; rintro e w4 ⟨rfl, n, rfl⟩)
      have HO2 := hid_ (fun n => (hown.out.drewN n).set k (.int .i64 (K1 : Nat)))
      have HX2 := hid_ (fun n => (hown.out.drewN n).exSet (a := w) (by have := HSZ.out; omega) (hx.out.drewN n) k (.int .i64 (K1 : Nat)))
      clear hown hx HMUL hcv hfv d1
      go_roundw
      case rel => exact ⟨k + 1, by omega, by go_num, hid_ ((HO2.out _).congr fun j hj => by
        by_cases e : j = k
        · subst e; rw [upd_same]; show _ = Value.int .i64 (if j < j + 1 then sclF p m ml (kin (p ^ m) a) u j else 0); rw [if_pos (by omega), HSC.out]
        · rw [upd_ne _ _ e]; show Value.int .i64 (if j < k then sclF p m ml (kin (p ^ m) a) u j else 0) = Value.int .i64 (if j < k + 1 then sclF p m ml (kin (p ^ m) a) u j else 0)
          by_cases h : j < k
          · rw [if_pos h, if_pos (by omega)]
          · rw [if_neg h, if_neg (by omega)]), hid_ (HX2.out _)⟩
      case measure => simp [intOf]; omega
    · obtain rfl : N = k := by omega
      have HO2 := hid_ (show Own wr g 3 g N (iv (sclF p m ml (kin (p ^ m) a) u)) from hown.out.icongr fun j hj => by rw [if_pos hj])
      clear hown
      go_wp2_with fail
      go_ret
      exact ⟨g, rfl, by rw [HSZ.out]; exact HO2.out, hx.out⟩
end Go.Proofs.YtgdmlmhpineibaaGreat
