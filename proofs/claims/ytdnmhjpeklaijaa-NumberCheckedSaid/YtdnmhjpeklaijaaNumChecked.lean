/- The walk of the law NumberChecked. -/
import Derived.Test.YtdnmhjpeklaijaaNumK
import Derived.Test.YtdnmhjpeklaijaaNumS
namespace Go.Proofs.Ytdnmhjpeklaijaa
set_option linter.unusedVariables false
set_option linter.unusedSimpArgs false
open Go.RowKit

set_option maxRecDepth 100000 in
set_option maxHeartbeats 1000000 in
theorem NumberChecked_any (n k m : Int) (w : World) (hn : -9223372036854775808 ≤ n ∧ n ≤ 9223372036854775807) (hk : -9223372036854775808 ≤ k ∧ k ≤ 9223372036854775807) (hm : -9223372036854775808 ≤ m ∧ m ≤ 9223372036854775807) :
    Calls Try.prog 8 #[.int .i64 n, .int .i64 k, .int .i64 m] w fun r w' => r = .returned (.bool true) ∧ Ex w w' := by
  obtain ⟨n1, n2⟩ := hn
  obtain ⟨k1, k2⟩ := hk
  obtain ⟨m1, m2⟩ := hm
  have hb : ∀ x ∈ [n, k, n], x ≤ 9223372036854775807 := by intro x hx; simp at hx; omega
  have HP := fun v w h => hid_ (Product_any m [n, k, n] v w h m2 hb)
  have HR := fun v w h => hid_ (rProduct_any m [n, k, n] v w h m2 hb)
  clear hb
  go_enter Try.func8, Try.ntmps8
  go_wp2_with fail
  refine (awake_any _).mono ?_
  rintro e w1 ⟨rfl, hx1⟩
  go_wp2_with fail
  refine (HP _ _ (isl_made w1 [n, k, n] _ (by simp))).out.mono ?_
  rintro e w2 ⟨rfl, hx2⟩
  go_wp2_with fail
  refine (HR _ _ (isl_made w2 [n, k, n] _ (by simp))).out.mono ?_
  rintro e w3 ⟨rfl, hx3⟩
  go_wp2_with fail
  refine (Exp_any n k m _ n2 k2 m2).mono ?_
  rintro e w4 ⟨rfl, hx4⟩
  go_wp2_with fail
  refine (rExp_any n k m _ n2 k2 m2).mono ?_
  rintro e w5 ⟨rfl, hx5⟩
  go_wp2_with fail
  refine (Choose_any n k m _ n2 k2 m2).mono ?_
  rintro e w6 ⟨rfl, hx6⟩
  go_wp2_with fail
  refine (rChoose_any n k m _ n2 k2 m2).mono ?_
  rintro e w7 ⟨rfl, hx7⟩
  go_wp2
  go_ret
  exact ⟨rfl, (hx1.trans (((Ex.refl _).alloc _).trans hx2)).trans ((((Ex.refl _).alloc _).trans hx3).trans (hx4.trans (hx5.trans (hx6.trans hx7))))⟩
end Go.Proofs.Ytdnmhjpeklaijaa
