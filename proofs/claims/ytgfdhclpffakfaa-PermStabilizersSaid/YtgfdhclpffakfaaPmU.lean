/- Few with its meaning; valid; the walk of PermOrbits. -/
import Derived.Test.YtgfdhclpffakfaaPmPe
import Derived.Test.YtgfdhclpffakfaaPmRO
import Derived.Test.YtgfdhclpffakfaaPmE
namespace Go.Proofs.Ytgfdhclpffakfaa
set_option linter.unusedVariables false
set_option linter.unusedSimpArgs false
open Go.RowKit

def FewR (n : Nat) (lim : Int) (r : Ending) : Prop := ∃ b : Bool, r = .returned (.bool b) ∧ (b = true → (n : Int) ≤ lim)
theorem fewR_no (n : Nat) (lim : Int) : FewR n lim (.returned (.bool false)) := ⟨false, rfl, fun h => by cases h⟩
theorem fewR_yes {n : Nat} {lim : Int} (h : (n : Int) ≤ lim) : FewR n lim (.returned (.bool true)) := ⟨true, rfl, fun _ => h⟩

set_option maxRecDepth 100000 in
set_option maxHeartbeats 1000000 in
theorem FewL_any (w : World) (cols : Int) (rows : List (List Int)) (v : Value) (hv : MSl w v rows) (lim : Int) (hl0 : 0 ≤ lim) (hl1 : lim ≤ 1000) :
    Calls Try.prog 27 #[.agg #[.int .i64 cols, v], .int .i64 lim] w fun r w' => FewR rows.length lim r ∧ Ex w w' := by
  obtain ⟨d0, d1, e0⟩ := boxM2_facts w cols v
  obtain ⟨za, zc, rfl, z1, z2, z3⟩ := (hv.ex e0).open
  have Z3 := hid_ z3
  unfold maxLen at z2
  clear hv z3
  by_cases h1 : 260 < cols
  · go_enter Try.func27, Try.ntmps27
    go_wp2_with fail
    go_ret
    exact ⟨fewR_no _ _, e0⟩
  · have h1' : cols ≤ 260 := by omega
    clear h1
    by_cases h2 : lim < (rows.length : Int)
    · go_enter Try.func27, Try.ntmps27
      go_wp2_with fail
      go_ret
      exact ⟨fewR_no _ _, e0⟩
    · have h2' : (rows.length : Int) ≤ lim := by omega
      have b1 : decide (260 < cols) = false := by simp; omega
      have b2 : decide (lim < (rows.length : Int)) = false := by simp; omega
      clear h2
      go_enter Try.func27, Try.ntmps27
      go_wp2_with fail
      generalize w.alloc (.cells #[.int .i64 cols, .slice za rows.length zc] 42) = w1 at *
      go_loopw [5, 6] (fun l' i' wr => ∃ (i : Nat) (l : Int), i ≤ rows.length ∧ i' = .int .i64 i ∧ l' = .int .i64 l ∧ 0 ≤ l ∧ l ≤ 1000 ∧ wr = w1) (fun _ i' _ => rows.length - (intOf i').toNat)
      case atStart => exact ⟨0, _, by omega, rfl, rfl, by omega, by omega, rfl⟩
      case round =>
        obtain ⟨i, l, hi, rfl, rfl, l1, l2, rfl⟩ := hrel
        by_cases hlt : i < rows.length
        · obtain ⟨r, hr⟩ : ∃ r, rows[i]? = some r := ⟨_, List.getElem?_eq_getElem hlt⟩
          obtain ⟨bb, o, rfl, hc⟩ := Z3.out (by omega)
          obtain ⟨u, c1, hu⟩ := hc i r hr
          obtain ⟨ua, uc, rfl, u1, u2, u3⟩ := hu.open
          unfold maxLen at u2
          clear hc hu u3 hr
          by_cases h3 : l < (r.length : Int)
          · go_wp2_with fail
            go_ret
            exact ⟨fewR_no _ _, e0⟩
          · have h3' : (r.length : Int) ≤ l := by omega
            clear h3
            go_wp2_with fail
            go_roundw
            case rel => exact ⟨i + 1, _, by omega, by go_num, (by first | rfl | trivial), by omega, by omega, (by first | rfl | trivial)⟩
            case measure => simp [intOf]; omega
        · obtain rfl : i = rows.length := by omega
          go_wp2_with fail
          go_ret
          exact ⟨fewR_yes h2', e0⟩

set_option maxRecDepth 100000 in
set_option maxHeartbeats 4000000 in
theorem PermOrbits_any (w : World) (n : Int) (rows : List (List Int)) (v : Value) (hv : MSl w v rows) :
    Calls Try.prog 5 #[.int .i64 n, v] w fun r w' => r = .returned (.bool true) ∧ Ex w w' := by
  obtain ⟨a, cap, rfl, _, _, _⟩ := hv.open
  have HV := hid_ hv
  clear hv
  go_enter Try.func5, Try.ntmps5
  go_wp2_with fail
  refine (awake_any w).mono ?_
  rintro e w1 ⟨rfl, hx1⟩
  have EX := hid_ hx1
  clear hx1
  go_wp2_with fail
  refine (FewL_any w1 0 rows _ (HV.out.ex EX.out) 400 (by omega) (by omega)).mono ?_
  rintro e w2 ⟨⟨b, rfl, hb⟩, hx⟩
  have EX := hid_ (EX.out.trans hx)
  clear hx
  cases b with
  | false =>
    clear hb
    go_wp2_with fail
    refine (awake_any w2).mono ?_
    rintro e w3 ⟨rfl, hx⟩
    have EX := hid_ (EX.out.trans hx)
    clear hx
    go_wp2_with fail
    go_ret
    exact ⟨rfl, EX.out⟩
  | true =>
    have hl : rows.length ≤ 1000 := by have := hb rfl; omega
    clear hb
    go_wp2_with fail
    refine (Orbits_any sortOK w2 n rows _ (HV.out.ex EX.out) hl).mono ?_
    rintro e w3 ⟨⟨u, rfl, hu⟩, hx⟩
    obtain ⟨K, hK⟩ : ∃ K, (orbS n rows).1 = K := ⟨_, rfl⟩
    obtain ⟨E, hE⟩ : ∃ E, (orbS n rows).2 = E := ⟨_, rfl⟩
    rw [hK] at hu
    rw [hE]
    obtain ⟨ua, uc, rfl, _, _, _⟩ := hu.open
    have HU := hid_ hu
    have EX := hid_ (EX.out.trans hx)
    clear hx hu
    go_wp2_with fail
    refine (rOrbits_any w3 n rows _ (HV.out.ex EX.out) hl).mono ?_
    rintro e w4 ⟨⟨y, rfl, hy⟩, hx⟩
    rw [hK] at hy
    rw [hE]
    obtain ⟨ya, yc, rfl, _, _, _⟩ := hy.open
    have HY := hid_ hy
    have HU := hid_ (HU.out.ex hx)
    have EX := hid_ (EX.out.trans hx)
    clear hx hy hK hE
    have hee : (E == E) = true := by simp
    go_wp2_with fail
    refine (k_rows w4 _ _ K K HU.out HY.out rfl).mono ?_
    rintro e w5 ⟨rfl, hx⟩
    have EX := hid_ (EX.out.trans hx)
    clear hx
    go_wp2_with fail
    go_ret
    exact ⟨rfl, EX.out⟩
end Go.Proofs.Ytgfdhclpffakfaa
