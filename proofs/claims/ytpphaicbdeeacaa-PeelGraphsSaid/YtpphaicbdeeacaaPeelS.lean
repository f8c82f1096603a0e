/- Walks of the references: Few, Rising, Check of a graph, Few of a graph. -/
import Derived.Test.YtpphaicbdeeacaaPeelP
namespace Go.Proofs.Ytpphaicbdeeacaa
set_option linter.unusedVariables false
set_option linter.unusedSimpArgs false
open Go.RowKit

theorem boxM2_facts (w : World) (c : Int) (v : Value) : (w.alloc (.cells #[.int .i64 c, v] 27)).cell? ⟨w.heap.size, 0, none⟩ = some (.int .i64 c) ∧
    (w.alloc (.cells #[.int .i64 c, v] 27)).cell? ⟨w.heap.size, 1, none⟩ = some v ∧ Ex w (w.alloc (.cells #[.int .i64 c, v] 27)) :=
  ⟨by simp, by simp, (Ex.refl _).alloc _⟩

set_option maxRecDepth 100000 in
set_option maxHeartbeats 1000000 in
theorem Few_any (w : World) (cols : Int) (rows : List (List Int)) (v : Value) (hv : MSl w v rows) (lim : Int) (hl0 : 0 ≤ lim) (hl1 : lim ≤ 1000) :
    Calls Try.prog 13 #[.agg #[.int .i64 cols, v], .int .i64 lim] w fun r w' => ∃ b, r = .returned (.bool b) ∧ Ex w w' := by
  obtain ⟨d0, d1, e0⟩ := boxM2_facts w cols v
  obtain ⟨za, zc, rfl, z1, z2, z3⟩ := (hv.ex e0).open
  have Z3 := hid_ z3
  unfold maxLen at z2
  clear hv z3
  by_cases h1 : 260 < cols
  · go_enter Try.func13, Try.ntmps13
    go_wp2_with fail
    go_ret
    exact ⟨_, rfl, e0⟩
  · have h1' : cols ≤ 260 := by omega
    clear h1
    by_cases h2 : lim < (rows.length : Int)
    · go_enter Try.func13, Try.ntmps13
      go_wp2_with fail
      go_ret
      exact ⟨_, rfl, e0⟩
    · have h2' : (rows.length : Int) ≤ lim := by omega
      have b1 : decide (260 < cols) = false := by simp; omega
      have b2 : decide (lim < (rows.length : Int)) = false := by simp; omega
      clear h2
      go_enter Try.func13, Try.ntmps13
      go_wp2_with fail
      generalize w.alloc (.cells #[.int .i64 cols, .slice za rows.length zc] 27) = w1 at *
      go_loopw [5, 6] (fun l' i' wr => ∃ (i : Nat) (l : Int), i ≤ rows.length ∧ i' = .int .i64 i ∧ l' = .int .i64 l ∧ 0 ≤ l ∧ l ≤ 1000 ∧ wr = w1) (fun _ i' _ => rows.length - (intOf i').toNat)
      case atStart => exact ⟨0, _, by omega, rfl, rfl, by omega, by omega, rfl⟩
      case round =>
        obtain ⟨i, l, hi, rfl, rfl, l1, l2, rfl⟩ := hrel
        by_cases hlt : i < rows.length
        · obtain ⟨r, hr⟩ : ∃ r, rows[i]? = some r := ⟨_, List.getElem?_eq_getElem hlt⟩
          obtain ⟨bb, o, rfl, hc⟩ := Z3.out (by omega)
          obtain ⟨u, c1, hu⟩ := hc i r hr
          obtain ⟨ua, uc, rfl, u1, u2, u3⟩ := hu.open
          unfold maxLen at u2
          clear hc hu u3 hr
          by_cases h3 : l < (r.length : Int)
          · go_wp2_with fail
            go_ret
            exact ⟨_, rfl, e0⟩
          · have h3' : (r.length : Int) ≤ l := by omega
            clear h3
            go_wp2_with fail
            go_roundw
            case rel => exact ⟨i + 1, _, by omega, by go_num, (by first | rfl | trivial), by omega, by omega, (by first | rfl | trivial)⟩
            case measure => simp [intOf]; omega
        · obtain rfl : i = rows.length := by omega
          go_wp2_with fail
          go_ret
          exact ⟨_, rfl, e0⟩
end Go.Proofs.Ytpphaicbdeeacaa
