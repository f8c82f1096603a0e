/- The walk of the law NumberChinese. -/
import Derived.Test.YtdnmhjpeklaijaaNumK
import Derived.Test.YtdnmhjpeklaijaaNumU
namespace Go.Proofs.Ytdnmhjpeklaijaa
set_option linter.unusedVariables false
set_option linter.unusedSimpArgs false
open Go.RowKit

set_option maxRecDepth 100000 in
set_option maxHeartbeats 1000000 in
theorem NumberChinese_any (a b : Option Addr) (c1 c2 : Nat) (rs ms : List Int) (w : World) (hl1 : ISl w (.slice a rs.length c1) rs) (hl2 : ISl w (.slice b ms.length c2) ms) (hb : ∀ x ∈ rs, -9223372036854775808 ≤ x ∧ x ≤ 9223372036854775807) :
    Calls Try.prog 6 #[.slice a rs.length c1, .slice b ms.length c2] w fun r w' => r = .returned (.bool true) ∧ Ex w w' := by
  have HL1 := hid_ hl1
  have HL2 := hid_ hl2
  have HP := fun w h1 h2 => hid_ (Chinese_any rs ms (.slice a rs.length c1) (.slice b ms.length c2) w h1 h2 hb)
  have HR := fun w h1 h2 => hid_ (rChinese_any rs ms (.slice a rs.length c1) (.slice b ms.length c2) w h1 h2 hb)
  clear hb hl1 hl2
  by_cases hbig : 40 < ms.length
  · have hbig' : (40 : Int) < (ms.length : Int) := by omega
    go_enter Try.func6, Try.ntmps6
    go_wp2_with fail
    refine (awake_any _).mono ?_
    rintro e w1 ⟨rfl, hx1⟩
    go_wp2_with fail
    refine (awake_any _).mono ?_
    rintro e w2 ⟨rfl, hx2⟩
    go_wp2_with fail
    go_ret
    exact ⟨rfl, hx1.trans hx2⟩
  · have hbig' : (ms.length : Int) ≤ 40 := by omega
    go_enter Try.func6, Try.ntmps6
    go_wp2_with fail
    refine (awake_any _).mono ?_
    rintro e w1 ⟨rfl, hx1⟩
    go_wp2_with fail
    refine (HP _ (HL1.out.ex hx1) (HL2.out.ex hx1)).out.mono ?_
    rintro e w2 ⟨rfl, hx2⟩
    go_wp2_with fail
    refine (HR _ (HL1.out.ex (hx1.trans hx2)) (HL2.out.ex (hx1.trans hx2))).out.mono ?_
    rintro e w3 ⟨rfl, hx3⟩
    go_wp2
    go_ret
    exact ⟨rfl, (hx1.trans hx2).trans hx3⟩
end Go.Proofs.Ytdnmhjpeklaijaa
