/- slices.IndexFunc and slices.ContainsFunc at slices of ints and of slices (printed by gen_find.py). -/
import Derived.Deep.LoopGhost
import Derived.Test.YtgfdhclpffakfaaGreatZa06
namespace Go.Proofs.YtgfdhclpffakfaaGreat
set_option linter.unusedVariables false
set_option linter.unusedSimpArgs false
open Go.RowKit

/-- The first index below n at which pr holds, or -1. -/
def fstI (pr : Nat → Bool) (n : Nat) : Int := match (List.range n).find? pr with | some i => i | none => -1
theorem fstI_hit {pr : Nat → Bool} {n i : Nat} (h : i < n) (hb : pr i = true) (ha : ∀ j, j < i → pr j = false) : fstI pr n = i := by
  unfold fstI
  have : (List.range n).find? pr = some i := by
    rw [List.find?_range_eq_some]
    exact ⟨hb, List.mem_range.2 h, fun j hj => by rw [ha j hj]; rfl⟩
  rw [this]
theorem fstI_miss {pr : Nat → Bool} {n : Nat} (ha : ∀ j, j < n → pr j = false) : fstI pr n = -1 := by
  unfold fstI
  have : (List.range n).find? pr = none := by
    rw [List.find?_eq_none]
    intro j hj
    rw [ha j (List.mem_range.1 hj)]; simp
  rw [this]
theorem fstI_any (pr : Nat → Bool) (n : Nat) : (List.range n).any pr = decide (0 ≤ fstI pr n) := by
  unfold fstI
  cases h : (List.range n).find? pr with
  | some i =>
    have := List.find?_some h
    have hm := List.mem_of_find?_eq_some h
    simp only
    rw [List.any_eq_true.2 ⟨i, hm, this⟩]
    simp
  | none =>
    rw [List.find?_eq_none] at h
    simp only
    rw [Bool.eq_iff_iff]
    constructor
    · intro h'
      obtain ⟨i, hi, hb⟩ := List.any_eq_true.1 h'
      exact absurd hb (h i hi)
    · intro h'; simp at h'
set_option maxRecDepth 100000 in
set_option maxHeartbeats 1000000 in
theorem IndexFunc_rng (w : World) (p0 : Value) (v : Value) (n : Nat) (us : List Value) (hv : Sl w v n 1 us) (pr : Nat → Bool)
    (hp : ∀ (q i : Nat) (u : Value), us[i]? = some u → Calls Tryz.prog 57 #[u, p0] (w.drewN q) fun e w' => e = .returned (.bool (pr i)) ∧ ∃ q', w' = (w.drewN q).drewN q') :
    Calls Tryz.prog 75 #[v, .func (.func 57) #[] #[p0]] w fun r w' => r = .returned (.int .i64 (fstI pr n)) ∧ ∃ q, w' = w.drewN q := by
  obtain ⟨hl, a, cap, rfl, s1, s2, s3⟩ := hv
  rw [Nat.mul_one] at hl
  have S3 := hid_ s3
  have HP := hid_ hp
  have HL := hid_ hl
  unfold maxLen at s2
  clear s3 hp hl
  go_enter Tryz.func75, Tryz.ntmps75
  go_wp2_with fail
  go_loopg [5, 8] n (fun gg _ i' wr => ∃ i q : Nat, i ≤ n ∧ n - i ≤ gg ∧ i' = .int .i64 i ∧ wr = w.drewN q ∧ Hid (∀ j, j < i → pr j = false))
  case atStart => exact ⟨0, 0, by omega, by omega, rfl, rfl, hid_ (fun j hj => by omega)⟩
  case round =>
    obtain ⟨i, q, hi, hg, rfl, rfl, hall⟩ := hrel
    by_cases hlt : i < n
    · obtain ⟨u, hu⟩ : ∃ u, us[i]? = some u := ⟨_, List.getElem?_eq_getElem (by rw [HL.out]; exact hlt)⟩
      obtain ⟨bb, o, rfl, hc⟩ := S3.out (by omega)
      have c1 := hc i u hu
      have HC := hid_ (HP.out q i u hu)
      have hlt' : (i : Int) < (n : Int) := by omega
      clear hc hu
      cases hb : pr i with
      | true =>
        rw [hb] at HC
        have HF := hid_ (fstI_hit hlt hb hall.out)
        clear hb
        go_wp2_with (go_at_call 57; refine HC.out.mono ?_; rintro e w' ⟨rfl, q', rfl⟩)
        go_ret
        exact ⟨ret_int HF.out.symm, q + q', rfl⟩
      | false =>
        rw [hb] at HC
        have HA := hid_ (show ∀ j, j < i + 1 → pr j = false from fun j hj => by
          by_cases e : j = i
          · subst e; exact hb
          · exact hall.out j (by omega))
        clear hb
        go_wp2_with (go_at_call 57; refine HC.out.mono ?_; rintro e w' ⟨rfl, q', rfl⟩)
        go_roundg (n - (i + 1))
        case measure => omega
        case rel => exact ⟨i + 1, q + q', by omega, by omega, by go_num, rfl, HA⟩
    · obtain rfl : i = n := by omega
      have HF := hid_ (fstI_miss hall.out)
      go_wp2_with fail
      go_ret
      exact ⟨ret_int HF.out.symm, q, rfl⟩
set_option maxRecDepth 100000 in
set_option maxHeartbeats 1000000 in
theorem ContainsFunc_rng (w : World) (p0 : Value) (v : Value) (n : Nat) (us : List Value) (hv : Sl w v n 1 us) (pr : Nat → Bool)
    (hp : ∀ (q i : Nat) (u : Value), us[i]? = some u → Calls Tryz.prog 57 #[u, p0] (w.drewN q) fun e w' => e = .returned (.bool (pr i)) ∧ ∃ q', w' = (w.drewN q).drewN q') :
    Calls Tryz.prog 56 #[v, .func (.func 57) #[] #[p0]] w fun r w' => r = .returned (.bool ((List.range n).any pr)) ∧ ∃ q, w' = w.drewN q := by
  have HC := hid_ (IndexFunc_rng w p0 v n us hv pr hp)
  have HB := hid_ (fstI_any pr n)
  obtain ⟨z, hz⟩ : ∃ z, fstI pr n = z := ⟨_, rfl⟩
  rw [hz] at HC HB
  clear hz hp hv
  go_enter Tryz.func56, Tryz.ntmps56
  go_wp2_with (go_at_call 75; refine HC.out.mono ?_; rintro e w' ⟨rfl, q, rfl⟩)
  go_ret
  exact ⟨ret_bool HB.out.symm, q, rfl⟩
set_option maxRecDepth 100000 in
set_option maxHeartbeats 1000000 in
theorem IndexFunc_len (w : World) (p0 : Value) (v : Value) (n : Nat) (us : List Value) (hv : Sl w v n 1 us) (pr : Nat → Bool)
    (hp : ∀ (q i : Nat) (u : Value), us[i]? = some u → Calls Tryz.prog 66 #[u, p0] (w.drewN q) fun e w' => e = .returned (.bool (pr i)) ∧ ∃ q', w' = (w.drewN q).drewN q') :
    Calls Tryz.prog 89 #[v, .func (.func 66) #[] #[p0]] w fun r w' => r = .returned (.int .i64 (fstI pr n)) ∧ ∃ q, w' = w.drewN q := by
  obtain ⟨hl, a, cap, rfl, s1, s2, s3⟩ := hv
  rw [Nat.mul_one] at hl
  have S3 := hid_ s3
  have HP := hid_ hp
  have HL := hid_ hl
  unfold maxLen at s2
  clear s3 hp hl
  go_enter Tryz.func89, Tryz.ntmps89
  go_wp2_with fail
  go_loopg [5, 8] n (fun gg _ i' wr => ∃ i q : Nat, i ≤ n ∧ n - i ≤ gg ∧ i' = .int .i64 i ∧ wr = w.drewN q ∧ Hid (∀ j, j < i → pr j = false))
  case atStart => exact ⟨0, 0, by omega, by omega, rfl, rfl, hid_ (fun j hj => by omega)⟩
  case round =>
    obtain ⟨i, q, hi, hg, rfl, rfl, hall⟩ := hrel
    by_cases hlt : i < n
    · obtain ⟨u, hu⟩ : ∃ u, us[i]? = some u := ⟨_, List.getElem?_eq_getElem (by rw [HL.out]; exact hlt)⟩
      obtain ⟨bb, o, rfl, hc⟩ := S3.out (by omega)
      have c1 := hc i u hu
      have HC := hid_ (HP.out q i u hu)
      have hlt' : (i : Int) < (n : Int) := by omega
      clear hc hu
      cases hb : pr i with
      | true =>
        rw [hb] at HC
        have HF := hid_ (fstI_hit hlt hb hall.out)
        clear hb
        go_wp2_with (go_at_call 66; refine HC.out.mono ?_; rintro e w' ⟨rfl, q', rfl⟩)
        go_ret
        exact ⟨ret_int HF.out.symm, q + q', rfl⟩
      | false =>
        rw [hb] at HC
        have HA := hid_ (show ∀ j, j < i + 1 → pr j = false from fun j hj => by
          by_cases e : j = i
          · subst e; exact hb
          · exact hall.out j (by omega))
        clear hb
        go_wp2_with (go_at_call 66; refine HC.out.mono ?_; rintro e w' ⟨rfl, q', rfl⟩)
        go_roundg (n - (i + 1))
        case measure => omega
        case rel => exact ⟨i + 1, q + q', by omega, by omega, by go_num, rfl, HA⟩
    · obtain rfl : i = n := by omega
      have HF := hid_ (fstI_miss hall.out)
      go_wp2_with fail
      go_ret
      exact ⟨ret_int HF.out.symm, q, rfl⟩
set_option maxRecDepth 100000 in
set_option maxHeartbeats 1000000 in
theorem ContainsFunc_len (w : World) (p0 : Value) (v : Value) (n : Nat) (us : List Value) (hv : Sl w v n 1 us) (pr : Nat → Bool)
    (hp : ∀ (q i : Nat) (u : Value), us[i]? = some u → Calls Tryz.prog 66 #[u, p0] (w.drewN q) fun e w' => e = .returned (.bool (pr i)) ∧ ∃ q', w' = (w.drewN q).drewN q') :
    Calls Tryz.prog 65 #[v, .func (.func 66) #[] #[p0]] w fun r w' => r = .returned (.bool ((List.range n).any pr)) ∧ ∃ q, w' = w.drewN q := by
  have HC := hid_ (IndexFunc_len w p0 v n us hv pr hp)
  have HB := hid_ (fstI_any pr n)
  obtain ⟨z, hz⟩ : ∃ z, fstI pr n = z := ⟨_, rfl⟩
  rw [hz] at HC HB
  clear hz hp hv
  go_enter Tryz.func65, Tryz.ntmps65
  go_wp2_with (go_at_call 89; refine HC.out.mono ?_; rintro e w' ⟨rfl, q, rfl⟩)
  go_ret
  exact ⟨ret_bool HB.out.symm, q, rfl⟩
end Go.Proofs.YtgfdhclpffakfaaGreat
