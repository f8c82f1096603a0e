/- Walks of the package peel: set, Check. -/
import Derived.Test.YtpphaicbdeeacaaLibE
namespace Go.Proofs.Ytpphaicbdeeacaa
set_option linter.unusedVariables false
set_option linter.unusedSimpArgs false
open Go.RowKit

/-- A strictly ascending list of numbers from 0 to n-1. -/
def risAt (n : Int) (l : List Int) (i : Nat) : Bool := decide (0 ≤ l.getD i 0 ∧ l.getD i 0 < n ∧ (0 < i → l.getD (i - 1) 0 < l.getD i 0))
def risB (n : Int) (l : List Int) : Bool := (List.range l.length).all fun i => risAt n l i
theorem risB_t {n : Int} {l : List Int} (h : ∀ i, i < l.length → risAt n l i = true) : risB n l = true := by
  unfold risB
  rw [List.all_eq_true]
  exact fun i hi => h i (List.mem_range.1 hi)
theorem risB_f {n : Int} {l : List Int} {i : Nat} (hi : i < l.length) (h : risAt n l i = false) : risB n l = false := by
  unfold risB
  rw [Bool.eq_false_iff]
  intro hc
  have := List.all_eq_true.1 hc i (List.mem_range.2 hi)
  rw [h] at this; cases this
theorem risB_at {n : Int} {l : List Int} (h : risB n l = true) {i : Nat} (hi : i < l.length) : risAt n l i = true :=
  List.all_eq_true.1 h i (List.mem_range.2 hi)

set_option maxRecDepth 100000 in
set_option maxHeartbeats 1000000 in
theorem set_any (w : World) (l : List Int) (v : Value) (n : Int) (hl : ISl w v l) :
    Calls Try.prog 48 #[v, .int .i64 n] w fun r w' => r = .returned (.bool (risB n l)) ∧ w = w' := by
  obtain ⟨a, cap, rfl, s1, s2, s3⟩ := hl.open
  have S3 := hid_ s3
  unfold maxLen at s2
  clear hl s3
  go_enter Try.func48, Try.ntmps48
  go_wp2_with fail
  go_loop [9] (fun i' => ∃ i : Nat, i ≤ l.length ∧ i' = .int .i64 i ∧ Hid (∀ (j : Nat), j < i → risAt n l j = true)) (fun i' => l.length - (intOf i').toNat)
  case atStart => exact ⟨0, by omega, rfl, hid_ (fun j h => by omega)⟩
  case round =>
    obtain ⟨i, hi, rfl, hall⟩ := hrel
    by_cases hlt : i < l.length
    · obtain ⟨x, hxx⟩ : ∃ x, l[i]? = some x := ⟨_, List.getElem?_eq_getElem hlt⟩
      obtain ⟨bb, o, rfl, hc⟩ := S3.out (by omega)
      have c1 := hc i x hxx
      have hgx : l.getD i 0 = x := by rw [List.getD_eq_getElem?_getD, hxx]; rfl
      have HA := hid_ (show risAt n l i = true → ∀ j, j < i + 1 → risAt n l j = true from fun h j hj => by
        by_cases e : j = i
        · subst e; exact h
        · exact hall.out j (by omega))
      have HF := hid_ (fun h => risB_f (n := n) hlt h)
      by_cases h1 : x < 0
      · have HR := hid_ (HF.out (by unfold risAt; rw [hgx]; simp; omega))
        clear hc hxx hgx
        go_wp2_with fail
        go_ret
        exact ⟨ret_bool HR.out.symm, rfl⟩
      · by_cases h2 : n ≤ x
        · have HR := hid_ (HF.out (by unfold risAt; rw [hgx]; simp; omega))
          have h1' : 0 ≤ x := by omega
          clear hc hxx hgx h1
          go_wp2_with fail
          go_ret
          exact ⟨ret_bool HR.out.symm, rfl⟩
        · have h1' : 0 ≤ x := by omega
          have h2' : x < n := by omega
          rcases i with _ | k
          · have HR := hid_ (HA.out (by unfold risAt; rw [hgx]; simp; omega))
            rw [Nat.add_zero] at c1
            clear hc hxx hgx h1 h2
            go_wp2_with fail
            go_round
            case rel => exact ⟨1, by omega, by go_num, HR⟩
            case measure => simp [intOf]; omega
          · obtain ⟨y, hyy⟩ : ∃ y, l[k]? = some y := ⟨_, List.getElem?_eq_getElem (by omega)⟩
            have c2 := hc k y hyy
            have hgy : l.getD k 0 = y := by rw [List.getD_eq_getElem?_getD, hyy]; rfl
            have hk : (0 : Int) < ((k + 1 : Nat) : Int) := by omega
            by_cases h3 : x ≤ y
            · have HR := hid_ (HF.out (by unfold risAt; rw [hgx, Nat.add_sub_cancel, hgy]; simp; omega))
              clear hc hxx hgx hyy hgy h1 h2
              go_wp2_with fail
              go_ret
              exact ⟨ret_bool HR.out.symm, rfl⟩
            · have HR := hid_ (HA.out (by unfold risAt; rw [hgx, Nat.add_sub_cancel, hgy]; simp; omega))
              have h3' : y < x := by omega
              clear hc hxx hgx hyy hgy h1 h2 h3
              go_wp2_with fail
              go_round
              case rel => exact ⟨k + 1 + 1, by omega, by go_num, HR⟩
              case measure => simp [intOf]; omega
    · obtain rfl : i = l.length := by omega
      have HR := hid_ (risB_t hall.out)
      go_wp2_with fail
      go_ret
      exact ⟨ret_bool HR.out.symm, rfl⟩
end Go.Proofs.Ytpphaicbdeeacaa
