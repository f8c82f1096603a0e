/- The walk of PermChecks. -/
import Derived.Test.YtgfdhclpffakfaaPmU
namespace Go.Proofs.Ytgfdhclpffakfaa
set_option linter.unusedVariables false
set_option linter.unusedSimpArgs false
open Go.RowKit

theorem Compose_some (w : World) (rows : List (List Int)) (v : Value) (hv : MSl w v rows) (l : List Int) (E : Int) (h : cmpS rows = (l, E)) : Calls Try.prog 13 #[v] w fun r w' => ∃ a c, r = .returned (.tuple #[.slice a l.length c, .int .i64 E]) ∧ ISl w' (.slice a l.length c) l ∧ Ex w w' :=
  (Compose_any w rows v hv).mono fun r w' ⟨⟨u, h1, h2⟩, h3⟩ => by
    rw [h] at h1 h2
    obtain ⟨a, c, rfl, _⟩ := h2.open
    exact ⟨a, c, h1, h2, h3⟩
theorem rCompose_some (w : World) (rows : List (List Int)) (v : Value) (hv : MSl w v rows) (l : List Int) (E : Int) (h : cmpS rows = (l, E)) : Calls Try.prog 14 #[v] w fun r w' => ∃ a c, r = .returned (.tuple #[.slice a l.length c, .int .i64 E]) ∧ ISl w' (.slice a l.length c) l ∧ Ex w w' :=
  (rCompose_any w rows v hv).mono fun r w' ⟨⟨u, h1, h2⟩, h3⟩ => by
    rw [h] at h1 h2
    obtain ⟨a, c, rfl, _⟩ := h2.open
    exact ⟨a, c, h1, h2, h3⟩
theorem Inverse_some (w : World) (p : List Int) (v : Value) (hv : ISl w v p) (l : List Int) (E : Int) (h : invS p = (l, E)) : Calls Try.prog 18 #[v] w fun r w' => ∃ a c, r = .returned (.tuple #[.slice a l.length c, .int .i64 E]) ∧ ISl w' (.slice a l.length c) l ∧ Ex w w' :=
  (Inverse_any w p v hv).mono fun r w' ⟨⟨u, h1, h2⟩, h3⟩ => by
    rw [h] at h1 h2
    obtain ⟨a, c, rfl, _⟩ := h2.open
    exact ⟨a, c, h1, h2, h3⟩
theorem rInverse_some (w : World) (p : List Int) (v : Value) (hv : ISl w v p) (l : List Int) (E : Int) (h : invS p = (l, E)) : Calls Try.prog 19 #[v] w fun r w' => ∃ a c, r = .returned (.tuple #[.slice a l.length c, .int .i64 E]) ∧ ISl w' (.slice a l.length c) l ∧ Ex w w' :=
  (rInverse_any w p v hv).mono fun r w' ⟨⟨u, h1, h2⟩, h3⟩ => by
    rw [h] at h1 h2
    obtain ⟨a, c, rfl, _⟩ := h2.open
    exact ⟨a, c, h1, h2, h3⟩
theorem Cycles_some (w : World) (p : List Int) (v : Value) (hv : ISl w v p) (l : List (List Int)) (E : Int) (h : cycS p = (l, E)) : Calls Try.prog 20 #[v] w fun r w' => ∃ a c, r = .returned (.tuple #[.slice a l.length c, .int .i64 E]) ∧ MSl w' (.slice a l.length c) l ∧ Ex w w' :=
  (Cycles_any w p v hv).mono fun r w' ⟨⟨u, h1, h2⟩, h3⟩ => by
    rw [h] at h1 h2
    obtain ⟨a, c, rfl, _⟩ := h2.open
    exact ⟨a, c, h1, h2, h3⟩
theorem rCycles_some (w : World) (p : List Int) (v : Value) (hv : ISl w v p) (l : List (List Int)) (E : Int) (h : cycS p = (l, E)) : Calls Try.prog 21 #[v] w fun r w' => ∃ a c, r = .returned (.tuple #[.slice a l.length c, .int .i64 E]) ∧ MSl w' (.slice a l.length c) l ∧ Ex w w' :=
  (rCycles_any w p v hv).mono fun r w' ⟨⟨u, h1, h2⟩, h3⟩ => by
    rw [h] at h1 h2
    obtain ⟨a, c, rfl, _⟩ := h2.open
    exact ⟨a, c, h1, h2, h3⟩

set_option maxRecDepth 100000 in
set_option maxHeartbeats 8000000 in
theorem PermChecks_any (w : World) (p q : List Int) (pv qv : Value) (hp : ISl w pv p) (hq : ISl w qv q) :
    Calls Try.prog 3 #[pv, qv] w fun r w' => r = .returned (.bool true) ∧ Ex w w' := by
  obtain ⟨pa, pc, rfl, _, _, _⟩ := hp.open
  obtain ⟨qa, qc, rfl, _, _, _⟩ := hq.open
  have HP := hid_ hp
  have HQ := hid_ hq
  clear hp hq
  by_cases hlen : p.length ≤ 100 ∧ q.length ≤ 100
  · have h1 : ¬ (100 : Int) < (p.length : Int) := by omega
    have h2 : ¬ (100 : Int) < (q.length : Int) := by omega
    clear hlen
    go_enter Try.func3, Try.ntmps3
    go_wp2_with fail
    refine (awake_any w).mono ?_
    rintro e w1 ⟨rfl, hx⟩
    have EX := hid_ hx
    have HP := hid_ (HP.out.ex hx)
    have HQ := hid_ (HQ.out.ex hx)
    clear hx
    go_wp2_with fail
    obtain ⟨A, E, hA⟩ : ∃ A E, cmpS [p, q, p] = (A, E) := ⟨_, _, rfl⟩
    refine (Compose_some _ [p, q, p] _ (msl_lit w1 [p, q, p] [.slice pa p.length pc, .slice qa q.length qc, .slice pa p.length pc] _ _ rfl rfl (rows3 HP.out HQ.out HP.out) rfl rfl (by simp)) A E hA).mono ?_
    rintro e w2 ⟨ua, uc, rfl, hu, hx⟩
    have hx := (Ex.al w1 _).trans hx
    have EX := hid_ (EX.out.trans hx)
    have HP := hid_ (HP.out.ex hx)
    have HQ := hid_ (HQ.out.ex hx)
    have HU := hid_ hu
    clear hx hu
    go_wp2_with fail
    refine (rCompose_some _ [p, q, p] _ (msl_lit w2 [p, q, p] [.slice pa p.length pc, .slice qa q.length qc, .slice pa p.length pc] _ _ rfl rfl (rows3 HP.out HQ.out HP.out) rfl rfl (by simp)) A E hA).mono ?_
    rintro e w3 ⟨va, vc, rfl, hv, hx⟩
    have hx := (Ex.al w2 _).trans hx
    have EX := hid_ (EX.out.trans hx)
    have HP := hid_ (HP.out.ex hx)
    have HU := hid_ (HU.out.ex hx)
    have HV := hid_ hv
    have hE : (E != E) = false := by simp
    clear hx hv hA HQ
    go_wp2_with fail
    refine (k_ints _ _ _ A A HU.out HV.out rfl).mono ?_
    rintro e w4 ⟨rfl, hx⟩
    have EX := hid_ (EX.out.trans hx)
    have HP := hid_ (HP.out.ex hx)
    clear hx HU HV
    go_wp2_with fail
    refine (Check_any _ p _ HP.out).mono ?_
    rintro e w5 ⟨rfl, hx⟩
    have EX := hid_ (EX.out.trans hx)
    have HP := hid_ (HP.out.ex hx)
    clear hx
    obtain ⟨F, hF⟩ : ∃ F, pchk p = F := ⟨_, rfl⟩
    rw [hF]
    have hFF : (F != F) = false := by simp
    go_wp2_with fail
    refine (rCheck_any _ p _ HP.out).mono ?_
    rintro e w6 ⟨rfl, q6, hw6⟩
    have hx : Ex w5 w6 := by rw [hw6]; exact (Ex.refl w5).drewN q6
    rw [hF]
    have EX := hid_ (EX.out.trans hx)
    have HP := hid_ (HP.out.ex hx)
    clear hx hF hw6
    go_wp2_with fail
    obtain ⟨I, G, hI⟩ : ∃ I G, invS p = (I, G) := ⟨_, _, rfl⟩
    refine (Inverse_some w6 p _ HP.out I G hI).mono ?_
    rintro e w7 ⟨ia, ic, rfl, hu, hx⟩
    have EX := hid_ (EX.out.trans hx)
    have HP := hid_ (HP.out.ex hx)
    have HU := hid_ hu
    clear hx hu
    go_wp2_with fail
    refine (rInverse_some w7 p _ HP.out I G hI).mono ?_
    rintro e w8 ⟨ja, jc, rfl, hv, hx⟩
    have EX := hid_ (EX.out.trans hx)
    have HP := hid_ (HP.out.ex hx)
    have HU := hid_ (HU.out.ex hx)
    have HV := hid_ hv
    clear hx hv hI
    go_wp2_with fail
    obtain ⟨Y, J, hY⟩ : ∃ Y J, cycS p = (Y, J) := ⟨_, _, rfl⟩
    refine (Cycles_some w8 p _ HP.out Y J hY).mono ?_
    rintro e w9 ⟨ya, yc, rfl, hy, hx⟩
    have EX := hid_ (EX.out.trans hx)
    have HP := hid_ (HP.out.ex hx)
    have HU := hid_ (HU.out.ex hx)
    have HV := hid_ (HV.out.ex hx)
    have HY := hid_ hy
    clear hx hy
    go_wp2_with fail
    refine (rCycles_some w9 p _ HP.out Y J hY).mono ?_
    rintro e w10 ⟨za, zc, rfl, hz, hx⟩
    have EX := hid_ (EX.out.trans hx)
    have HP := hid_ (HP.out.ex hx)
    have HU := hid_ (HU.out.ex hx)
    have HV := hid_ (HV.out.ex hx)
    have HY := hid_ (HY.out.ex hx)
    have HZ := hid_ hz
    clear hx hz hY
    go_wp2_with fail
    obtain ⟨m, hm⟩ : ∃ m, (ordS p).1 = m := ⟨_, rfl⟩
    obtain ⟨K, hK⟩ : ∃ K, (ordS p).2 = K := ⟨_, rfl⟩
    refine (Order_any w10 p _ HP.out).mono ?_
    rintro e w11 ⟨rfl, hx⟩
    rw [hm, hK]
    have EX := hid_ (EX.out.trans hx)
    have HP := hid_ (HP.out.ex hx)
    have HU := hid_ (HU.out.ex hx)
    have HV := hid_ (HV.out.ex hx)
    have HY := hid_ (HY.out.ex hx)
    have HZ := hid_ (HZ.out.ex hx)
    clear hx
    go_wp2_with fail
    refine (rOrder_any w11 p _ HP.out).mono ?_
    rintro e w12 ⟨rfl, hx⟩
    rw [hm, hK]
    have EX := hid_ (EX.out.trans hx)
    have HU := hid_ (HU.out.ex hx)
    have HV := hid_ (HV.out.ex hx)
    have HY := hid_ (HY.out.ex hx)
    have HZ := hid_ (HZ.out.ex hx)
    clear hx hm hK HP
    go_wp2_with fail
    refine (Compose_some w12 [] _ (msl_nil w12) [] 11 (by decide)).mono ?_
    rintro e w13 ⟨na, nc, rfl, hn, hx⟩
    have EX := hid_ (EX.out.trans hx)
    have HU := hid_ (HU.out.ex hx)
    have HV := hid_ (HV.out.ex hx)
    have HY := hid_ (HY.out.ex hx)
    have HZ := hid_ (HZ.out.ex hx)
    clear hx hn
    have g1 : (G == G) = true := by simp
    have g2 : (J == J) = true := by simp
    have g3 : (K == K) = true := by simp
    have g4 : (m == m) = true := by simp
    go_wp2_with fail
    refine (k_ints _ _ _ I I HU.out HV.out rfl).mono ?_
    rintro e w14 ⟨rfl, hx⟩
    have EX := hid_ (EX.out.trans hx)
    have HY := hid_ (HY.out.ex hx)
    have HZ := hid_ (HZ.out.ex hx)
    clear hx
    go_wp2_with fail
    refine (k_rows _ _ _ Y Y HY.out HZ.out rfl).mono ?_
    rintro e w15 ⟨rfl, hx⟩
    have EX := hid_ (EX.out.trans hx)
    clear hx
    go_wp2_with fail
    go_ret
    exact ⟨rfl, EX.out⟩
  · have key : ∀ h : (100 : Int) < (p.length : Int) ∨ (¬ (100 : Int) < (p.length : Int) ∧ (100 : Int) < (q.length : Int)), Calls Try.prog 3 #[.slice pa p.length pc, .slice qa q.length qc] w fun r w' => r = .returned (.bool true) ∧ Ex w w' := by
      intro h
      rcases h with h | ⟨h, h'⟩
      all_goals
        go_enter Try.func3, Try.ntmps3
        go_wp2_with fail
        refine (awake_any w).mono ?_
        rintro e w1 ⟨rfl, hx⟩
        have EX := hid_ hx
        clear hx
        go_wp2_with fail
        refine (awake_any w1).mono ?_
        rintro e w2 ⟨rfl, hx⟩
        have EX := hid_ (EX.out.trans hx)
        clear hx
        go_wp2_with fail
        go_ret
        exact ⟨rfl, EX.out⟩
    exact key (by omega)
end Go.Proofs.Ytgfdhclpffakfaa
