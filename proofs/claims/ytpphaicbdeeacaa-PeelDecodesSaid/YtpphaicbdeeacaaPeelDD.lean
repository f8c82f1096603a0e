/- Walk of the law PeelDecodes. -/
import Derived.Test.YtpphaicbdeeacaaPeelDC
import Derived.Test.YtpphaicbdeeacaaPeelR
import Derived.Test.YtpphaicbdeeacaaPeelT
namespace Go.Proofs.Ytpphaicbdeeacaa
set_option linter.unusedVariables false
set_option linter.unusedSimpArgs false
open Go.RowKit

theorem PeelB.unique {p m : Nat} {ml : List Int} {N : Nat} {H : List (List Int)} {w er X L X' L' : List Int} {e e' : Int} (h : PeelB p m ml N H w er X L e) (k : PeelB p m ml N H w er X' L' e') : X = X' ∧ L = L' ∧ e = e' := by
  unfold PeelB at h k
  by_cases h1 : w.length = N
  · by_cases h2 : entS (p ^ m) w = 0
    · cases h3 : risB N er with
      | false =>
        simp only [h1, h2, h3, ne_eq, not_true_eq_false, false_and, true_and, false_or, reduceCtorEq, or_false] at h k
        obtain ⟨rfl, rfl, rfl⟩ := h
        obtain ⟨rfl, rfl, rfl⟩ := k
        exact ⟨rfl, rfl, rfl⟩
      | true =>
        simp only [h1, h2, h3, ne_eq, not_true_eq_false, false_and, true_and, false_or, reduceCtorEq] at h k
        obtain ⟨x, f, hx, h⟩ := h
        obtain ⟨y, g, hy, k⟩ := k
        obtain ⟨rfl, rfl⟩ := hx.unique hy
        rcases h with ⟨a, rfl, rfl, rfl⟩ | ⟨a, rfl, rfl, rfl⟩
        · rcases k with ⟨_, rfl, rfl, rfl⟩ | ⟨b, _⟩
          · exact ⟨rfl, rfl, rfl⟩
          · rw [a] at b; cases b
        · rcases k with ⟨b, _⟩ | ⟨_, rfl, rfl, rfl⟩
          · rw [a] at b; cases b
          · exact ⟨rfl, rfl, rfl⟩
    · simp only [h1, h2, ne_eq, not_true_eq_false, not_false_eq_true, false_and, true_and, false_or, or_false] at h k
      obtain ⟨rfl, rfl, rfl⟩ := h
      obtain ⟨rfl, rfl, rfl⟩ := k
      exact ⟨rfl, rfl, rfl⟩
  · simp only [h1, ne_eq, not_false_eq_true, false_and, true_and, or_false] at h k
    obtain ⟨rfl, rfl, rfl⟩ := h
    obtain ⟨rfl, rfl, rfl⟩ := k
    exact ⟨rfl, rfl, rfl⟩
theorem PeelS.unique {p m : Int} {ml : List Int} {cols : Int} {H : List (List Int)} {w er X L X' L' : List Int} {e e' : Int} (h : PeelS p m ml cols H w er X L e) (k : PeelS p m ml cols H w er X' L' e') : X = X' ∧ L = L' ∧ e = e' := by
  obtain ⟨V, gr, ge, h1, h⟩ := h
  obtain ⟨V', gr', ge', k1, k⟩ := k
  obtain ⟨rfl, rfl, rfl⟩ := h1.unique k1
  rcases h with ⟨h2, rfl, rfl, rfl⟩ | ⟨rfl, pn, mn, N, rfl, rfl, rfl, _, _, _, _, _, h⟩
  · rcases k with ⟨_, rfl, rfl, rfl⟩ | ⟨k2, _⟩
    · exact ⟨rfl, rfl, rfl⟩
    · exact absurd k2 h2
  · rcases k with ⟨k2, _⟩ | ⟨_, pn', mn', N', e1, e2, e3, _, _, _, _, _, k⟩
    · exact absurd rfl k2
    · have e1 : pn' = pn := by omega
      have e2 : mn' = mn := by omega
      have e3 : N' = N := by omega
      subst e1 e2 e3
      exact h.unique k

set_option maxRecDepth 100000 in
set_option maxHeartbeats 8000000 in
theorem PeelDecodes_any (w : World) (p m : Int) (mv : Value) (ml : List Int) (cols : Int) (v : Value) (rows : List (List Int)) (u0 u1 : Value) (l0 l1 : List Int) (hmv : ISl w mv ml) (hv : MSl w v rows) (h0 : ISl w u0 l0) (h1 : ISl w u1 l1) :
    Calls Try.prog 5 #[.agg #[.int .i64 p, .int .i64 m, mv], .agg #[.int .i64 cols, v], .agg #[u0, u1]] w fun r w' => r = .returned (.bool true) ∧ Ex w w' := by
  obtain ⟨g0, g1, g2, e0, gsz⟩ := box_facts w p m mv
  have HMV := hid_ hmv
  have HV := hid_ hv
  have H0 := hid_ h0
  have H1 := hid_ h1
  obtain ⟨za, zc, rfl, _, _, _⟩ := hv.open
  obtain ⟨ua, uc, rfl, _, _, _⟩ := h0.open
  obtain ⟨xa, xc, rfl, _, _, _⟩ := h1.open
  obtain ⟨xb, hxb⟩ : ∃ xb, w.heap.size = xb := ⟨_, rfl⟩
  rw [hxb] at g0 g1 g2 gsz
  clear hmv hv h0 h1
  go_enter Try.func5, Try.ntmps5
  go_wp2_with fail
  try simp only [hxb]
  clear hxb
  generalize w.alloc (.cells #[.int .i64 p, .int .i64 m, mv] 24) = wA at *
  have a0 : (wA.alloc (.cells #[.int .i64 cols, .slice za rows.length zc] 27)).cell? ⟨xb + 1, 0, none⟩ = some (.int .i64 cols) := by rw [← gsz]; simp
  have a1 : (wA.alloc (.cells #[.int .i64 cols, .slice za rows.length zc] 27)).cell? ⟨xb + 1, 1, none⟩ = some (.slice za rows.length zc) := by rw [← gsz]; simp
  have asz : (wA.alloc (.cells #[.int .i64 cols, .slice za rows.length zc] 27)).heap.size = xb + 1 + 1 := by simp [gsz]
  have eA : Ex wA (wA.alloc (.cells #[.int .i64 cols, .slice za rows.length zc] 27)) := (Ex.refl _).alloc _
  generalize wA.alloc (.cells #[.int .i64 cols, .slice za rows.length zc] 27) = wB at *
  have q0 : (wB.alloc (.cells #[.slice ua l0.length uc, .slice xa l1.length xc] 48)).cell? ⟨xb + 1 + 1, 0, none⟩ = some (.slice ua l0.length uc) := by rw [← asz]; simp
  have q1 : (wB.alloc (.cells #[.slice ua l0.length uc, .slice xa l1.length xc] 48)).cell? ⟨xb + 1 + 1, 1, none⟩ = some (.slice xa l1.length xc) := by rw [← asz]; simp
  have eB : Ex wB (wB.alloc (.cells #[.slice ua l0.length uc, .slice xa l1.length xc] 48)) := (Ex.refl _).alloc _
  generalize wB.alloc (.cells #[.slice ua l0.length uc, .slice xa l1.length xc] 48) = wC at *
  have c0 := eB.cell (eA.cell g0)
  have c1 := eB.cell (eA.cell g1)
  have c2 := eB.cell (eA.cell g2)
  have c3 := eB.cell a0
  have c4 := eB.cell a1
  have EX := hid_ ((e0.trans eA).trans eB)
  clear g0 g1 g2 a0 a1 gsz asz e0 eA eB wA wB
  refine (awake_any wC).mono ?_
  rintro e w1 ⟨rfl, hx1⟩
  have c0 := hx1.cell c0
  have c1 := hx1.cell c1
  have c2 := hx1.cell c2
  have c3 := hx1.cell c3
  have c4 := hx1.cell c4
  have q0 := hx1.cell q0
  have q1 := hx1.cell q1
  have EX := hid_ (EX.out.trans hx1)
  clear hx1
  go_wp2_with fail
  refine (few_any p m ml mv w1 cols rows _ (HV.out.ex EX.out)).mono ?_
  rintro e w2 ⟨b, rfl, hx2⟩
  have c0 := hx2.cell c0
  have c1 := hx2.cell c1
  have c2 := hx2.cell c2
  have c3 := hx2.cell c3
  have c4 := hx2.cell c4
  have q0 := hx2.cell q0
  have q1 := hx2.cell q1
  have EX := hid_ (EX.out.trans hx2)
  clear hx2
  cases b with
  | false =>
    go_wp2_with (go_at_call 12; refine (awake_any _).mono ?_; rintro e w3 ⟨rfl, hx3⟩)
    go_ret
    exact ⟨rfl, EX.out.trans hx3⟩
  | true =>
    by_cases hl0 : 100 < (l0.length : Int)
    · go_wp2_with (go_at_call 12; refine (awake_any _).mono ?_; rintro e w3 ⟨rfl, hx3⟩)
      go_ret
      exact ⟨rfl, EX.out.trans hx3⟩
    · have hl0' : (l0.length : Int) ≤ 100 := by omega
      have d0 : decide (100 < (l0.length : Int)) = false := by simp; omega
      clear hl0
      by_cases hl1 : 100 < (l1.length : Int)
      · go_wp2_with (go_at_call 12; refine (awake_any _).mono ?_; rintro e w3 ⟨rfl, hx3⟩)
        go_ret
        exact ⟨rfl, EX.out.trans hx3⟩
      · have hl1' : (l1.length : Int) ≤ 100 := by omega
        have d1 : decide (100 < (l1.length : Int)) = false := by simp; omega
        clear hl1
        go_wp2_with fail
        refine (Peel_any p m ml mv w2 (HMV.out.ex EX.out) cols rows _ (HV.out.ex EX.out) l0 l1 _ _ (H0.out.ex EX.out) (H1.out.ex EX.out)).mono ?_
        rintro e w3 ⟨X, L, xv, lv, pe, rfl, hp, hX, hL, hx3⟩
        have c0 := hx3.cell c0
        have c1 := hx3.cell c1
        have c2 := hx3.cell c2
        have c3 := hx3.cell c3
        have c4 := hx3.cell c4
        have q0 := hx3.cell q0
        have q1 := hx3.cell q1
        have EX := hid_ (EX.out.trans hx3)
        have HP := hid_ hp
        obtain ⟨xa3, xc3, rfl, _, _, _⟩ := hX.open
        obtain ⟨la3, lc3, rfl, _, _, _⟩ := hL.open
        have HX := hid_ hX
        have HL := hid_ hL
        clear hx3 hp hX hL
        go_wp2_with fail
        refine (rPeel_any p m ml mv w3 (HMV.out.ex EX.out) cols rows _ (HV.out.ex EX.out) l0 l1 _ _ (H0.out.ex EX.out) (H1.out.ex EX.out)).mono ?_
        rintro e w4 ⟨X2, L2, xv2, lv2, pe2, rfl, hp, hX, hL, hx4⟩
        obtain ⟨rfl, rfl, rfl⟩ := HP.out.unique hp
        have EX := hid_ (EX.out.trans hx4)
        obtain ⟨xa4, xc4, rfl, _, _, _⟩ := hX.open
        obtain ⟨la4, lc4, rfl, _, _, _⟩ := hL.open
        have HS1 := hid_ (SameInts_any w4 X X _ _ (HX.out.ex hx4) hX)
        have HS2 := hid_ (fun n => SameInts_any (w4.drewN n) L L _ _ ((HL.out.ex hx4).ex ((Ex.refl w4).drewN n)) (hL.ex ((Ex.refl w4).drewN n)))
        rw [show decide (X = X) = true by simp] at HS1
        simp only [show decide (L = L) = true by simp] at HS2
        clear HX HL hx4 hp hX hL c0 c1 c2 c3 c4 q0 q1 HP
        have hbe : (pe == pe) = true := by simp
        obtain ⟨xl, hxl⟩ : ∃ xl, X.length = xl := ⟨_, rfl⟩
        obtain ⟨ll, hll⟩ : ∃ ll, L.length = ll := ⟨_, rfl⟩
        rw [hxl] at HS1
        simp only [hll] at HS2
        rw [hxl, hll]
        clear hxl hll
        go_wp2_with (go_at_call 28; first | (with_reducible refine HS1.out.mono ?_; rintro e w5 ⟨rfl, n, rfl⟩) | (with_reducible refine (HS2.out _).mono ?_; rintro e w6 ⟨rfl, k, rfl⟩))
        go_ret
        exact ⟨rfl, EX.out.drewN _⟩
end Go.Proofs.Ytpphaicbdeeacaa
