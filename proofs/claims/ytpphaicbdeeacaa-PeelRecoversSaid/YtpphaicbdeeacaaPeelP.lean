/- Walks of the references of the packages matrix and peel: SameInts, SameRows, Same, Few, Rising, Check. -/
import Derived.Test.YtpphaicbdeeacaaPeelE
import Derived.Test.YtpphaicbdeeacaaFldF
namespace Go.Proofs.Ytpphaicbdeeacaa
set_option linter.unusedVariables false
set_option linter.unusedSimpArgs false
open Go.RowKit

theorem eq_of_get {l k : List Int} (hl : l.length = k.length) (h : ∀ j, j < l.length → l[j]? = k[j]?) : l = k := by
  apply List.ext_getElem?
  intro j
  by_cases hj : j < l.length
  · exact h j hj
  · rw [List.getElem?_eq_none_iff.2 (by omega), List.getElem?_eq_none_iff.2 (by omega)]

set_option maxRecDepth 100000 in
set_option maxHeartbeats 1000000 in
theorem SameInts_any (w : World) (l k : List Int) (v u : Value) (hl : ISl w v l) (hk : ISl w u k) :
    Calls Try.prog 28 #[v, u] w fun r w' => r = .returned (.bool (decide (l = k))) ∧ ∃ n, w' = w.drewN n := by
  obtain ⟨a, cap, rfl, s1, s2, s3⟩ := hl.open
  obtain ⟨c, cc, rfl, t1, t2, t3⟩ := hk.open
  have S3 := hid_ s3
  have T3 := hid_ t3
  unfold maxLen at s2 t2
  clear hl hk s3 t3
  by_cases hlk : l.length = k.length
  · have hb : ((l.length : Int) != (k.length : Int)) = false := by simp; omega
    have HLK := hid_ hlk
    clear hlk
    go_enter Try.func28, Try.ntmps28
    go_wp2_with fail
    go_loopw [5] (fun i' wr => ∃ i n : Nat, i ≤ l.length ∧ i' = .int .i64 i ∧ wr = w.drewN n ∧ Hid (∀ j, j < i → l[j]? = k[j]?)) (fun i' _ => l.length - (intOf i').toNat)
    case atStart => exact ⟨0, 0, by omega, rfl, rfl, hid_ (fun j hj => by omega)⟩
    case round =>
      obtain ⟨i, n, hi, rfl, rfl, hall⟩ := hrel
      by_cases hlt : i < l.length
      · obtain ⟨x, hx⟩ : ∃ x, l[i]? = some x := ⟨_, List.getElem?_eq_getElem hlt⟩
        have hik : i < k.length := by have := HLK.out; omega
        obtain ⟨y, hy⟩ : ∃ y, k[i]? = some y := ⟨_, List.getElem?_eq_getElem hik⟩
        obtain ⟨b, o, rfl, hc⟩ := S3.out (by omega)
        obtain ⟨b2, o2, rfl, hc2⟩ := T3.out (by omega)
        have c1 := ((Ex.refl w).drewN n).cell (hc i x hx)
        have c2 := ((Ex.refl w).drewN n).cell (hc2 i y hy)
        have i1 : (0 : Int) ≤ (i : Int) := by omega
        have i2 : (i : Int) < (l.length : Int) := by omega
        have i3 : (i : Int) < (k.length : Int) := by omega
        obtain ⟨W, hW⟩ : ∃ W, w.drewN n = W := ⟨_, rfl⟩
        rw [hW] at c1 c2 ⊢
        have HWE := hid_ hW
        clear hW
        by_cases hxy : x = y
        · have HA := hid_ (show ∀ j, j < i + 1 → l[j]? = k[j]? from fun j hj => by
            by_cases e : j = i
            · subst e; rw [hx, hy, hxy]
            · exact hall.out j (by omega))
          have hbb : (x != y) = false := by simpa using hxy
          clear hc hc2 hx hy hxy
          go_wp2_with fail
          go_quiet (fail)
          go_wp2_with fail
          go_roundw
          case rel => exact ⟨i + 1, _, by omega, by go_num, by rw [← HWE.out, World.drewN_drewN], HA⟩
          case measure => simp [intOf]; omega
        · have HN := hid_ (show ¬ l = k from fun e => hxy (by rw [e, hy] at hx; injection hx with hx; exact hx.symm))
          have hbb : (x != y) = true := by simpa using hxy
          clear hc hc2 hx hy hxy
          go_wp2_with fail
          go_quiet (fail)
          go_wp2_with fail
          go_ret
          exact ⟨ret_bool (decide_eq_false HN.out).symm, _, by rw [← HWE.out, World.drewN_drewN]⟩
      · obtain rfl : i = l.length := by omega
        have HE := hid_ (eq_of_get HLK.out hall.out)
        go_wp2_with fail
        go_ret
        exact ⟨ret_bool (decide_eq_true HE.out).symm, n, rfl⟩
  · have hb : ((l.length : Int) != (k.length : Int)) = true := by simp; omega
    have HN := hid_ (show ¬ l = k from fun e => hlk (by rw [e]))
    clear hlk
    go_enter Try.func28, Try.ntmps28
    go_wp2_with fail
    go_ret
    exact ⟨ret_bool (decide_eq_false HN.out).symm, 0, rfl⟩

theorem rows_eq_of_get {l k : List (List Int)} (hl : l.length = k.length) (h : ∀ j, j < l.length → l[j]? = k[j]?) : l = k := by
  apply List.ext_getElem?
  intro j
  by_cases hj : j < l.length
  · exact h j hj
  · rw [List.getElem?_eq_none_iff.2 (by omega), List.getElem?_eq_none_iff.2 (by omega)]

set_option maxRecDepth 100000 in
set_option maxHeartbeats 1000000 in
theorem SameRows_any (w : World) (l k : List (List Int)) (v u : Value) (hl : MSl w v l) (hk : MSl w u k) :
    Calls Try.prog 44 #[v, u] w fun r w' => r = .returned (.bool (decide (l = k))) ∧ ∃ n, w' = w.drewN n := by
  obtain ⟨a, cap, rfl, s1, s2, s3⟩ := hl.open
  obtain ⟨c, cc, rfl, t1, t2, t3⟩ := hk.open
  have S3 := hid_ s3
  have T3 := hid_ t3
  unfold maxLen at s2 t2
  clear hl hk s3 t3
  by_cases hlk : l.length = k.length
  · have hb : ((l.length : Int) != (k.length : Int)) = false := by simp; omega
    have HLK := hid_ hlk
    clear hlk
    go_enter Try.func44, Try.ntmps44
    go_wp2_with fail
    go_loopw [5] (fun i' wr => ∃ i n : Nat, i ≤ l.length ∧ i' = .int .i64 i ∧ wr = w.drewN n ∧ Hid (∀ j, j < i → l[j]? = k[j]?)) (fun i' _ => l.length - (intOf i').toNat)
    case atStart => exact ⟨0, 0, by omega, rfl, rfl, hid_ (fun j hj => by omega)⟩
    case round =>
      obtain ⟨i, n, hi, rfl, rfl, hall⟩ := hrel
      by_cases hlt : i < l.length
      · obtain ⟨x, hx⟩ : ∃ x, l[i]? = some x := ⟨_, List.getElem?_eq_getElem hlt⟩
        have hik : i < k.length := by have := HLK.out; omega
        obtain ⟨y, hy⟩ : ∃ y, k[i]? = some y := ⟨_, List.getElem?_eq_getElem hik⟩
        obtain ⟨b, o, rfl, hc⟩ := S3.out (by omega)
        obtain ⟨b2, o2, rfl, hc2⟩ := T3.out (by omega)
        obtain ⟨u1, e1, hu1⟩ := hc i x hx
        obtain ⟨u2, e2, hu2⟩ := hc2 i y hy
        have c1 := ((Ex.refl w).drewN n).cell e1
        have c2 := ((Ex.refl w).drewN n).cell e2
        have hv1 := hu1.ex ((Ex.refl w).drewN n)
        have hv2 := hu2.ex ((Ex.refl w).drewN n)
        have i1 : (0 : Int) ≤ (i : Int) := by omega
        have i2 : (i : Int) < (l.length : Int) := by omega
        have i3 : (i : Int) < (k.length : Int) := by omega
        obtain ⟨W, hW⟩ : ∃ W, w.drewN n = W := ⟨_, rfl⟩
        rw [hW] at c1 c2 hv1 hv2 ⊢
        have HWE := hid_ hW
        have HSI := hid_ (fun n' => SameInts_any (W.drewN n') x y u1 u2 (hv1.ex ((Ex.refl W).drewN n')) (hv2.ex ((Ex.refl W).drewN n')))
        obtain ⟨ua, uc, rfl, _, _, _⟩ := hv1.open
        obtain ⟨va, vc, rfl, _, _, _⟩ := hv2.open
        by_cases hxy : x = y
        · have HA := hid_ (show ∀ j, j < i + 1 → l[j]? = k[j]? from fun j hj => by
            by_cases e : j = i
            · subst e; rw [hx, hy, hxy]
            · exact hall.out j (by omega))
          rw [decide_eq_true hxy] at HSI
          clear hc hc2 hx hy hxy hW hu1 hu2 e1 e2 hv1 hv2
          go_wp2_with fail
          go_quiet ((go_at_call 28; exact quiet_draw (HSI.out _)))
          go_wp2_with fail
          go_roundw
          case rel => exact ⟨i + 1, _, by omega, by go_num, by rw [← HWE.out, World.drewN_drewN], HA⟩
          case measure => simp [intOf]; omega
        · have HN := hid_ (show ¬ l = k from fun e => hxy (by rw [e, hy] at hx; injection hx with hx; exact hx.symm))
          rw [decide_eq_false hxy] at HSI
          clear hc hc2 hx hy hxy hW hu1 hu2 e1 e2 hv1 hv2
          go_wp2_with fail
          go_quiet ((go_at_call 28; exact quiet_draw (HSI.out _)))
          go_wp2_with fail
          go_ret
          exact ⟨ret_bool (decide_eq_false HN.out).symm, _, by rw [← HWE.out, World.drewN_drewN]⟩
      · obtain rfl : i = l.length := by omega
        have HE := hid_ (rows_eq_of_get HLK.out hall.out)
        go_wp2_with fail
        go_ret
        exact ⟨ret_bool (decide_eq_true HE.out).symm, n, rfl⟩
  · have hb : ((l.length : Int) != (k.length : Int)) = true := by simp; omega
    have HN := hid_ (show ¬ l = k from fun e => hlk (by rw [e]))
    clear hlk
    go_enter Try.func44, Try.ntmps44
    go_wp2_with fail
    go_ret
    exact ⟨ret_bool (decide_eq_false HN.out).symm, 0, rfl⟩

set_option maxRecDepth 100000 in
set_option maxHeartbeats 1000000 in
theorem Same_any (w : World) (V U : Int) (l k : List (List Int)) (v u : Value) (hl : MSl w v l) (hk : MSl w u k) :
    Calls Try.prog 16 #[.agg #[.int .i64 V, v], .agg #[.int .i64 U, u]] w fun r w' => r = .returned (.bool (decide (V = U) && decide (l = k))) ∧ Ex w w' := by
  obtain ⟨d0, d1, e0⟩ := boxT_facts w V v
  have hs1 : (w.alloc (.cells #[.int .i64 V, v] 31)).heap.size = w.heap.size + 1 := by simp
  have HSR := hid_ (fun w' (h : Ex w w') => SameRows_any w' l k v u (hl.ex h) (hk.ex h))
  obtain ⟨va, vc, rfl, _, _, _⟩ := hl.open
  obtain ⟨ua, uc, rfl, _, _, _⟩ := hk.open
  generalize hw1 : w.alloc (.cells #[.int .i64 V, .slice va l.length vc] 31) = w1 at *
  obtain ⟨f0, f1, e1⟩ := boxT_facts w1 U (.slice ua k.length uc)
  rw [hs1] at f0 f1
  have g0 := e1.cell d0
  have g1 := e1.cell d1
  have HW1 := hid_ hw1
  have EX := hid_ (e0.trans e1)
  clear d0 d1 e0 e1 hs1 hl hk
  rw [← hw1] at f0 f1 g0 g1 EX
  clear HW1 hw1 w1
  by_cases hv : V = U
  · have hb : (V == U) = true := by simpa using hv
    have HB := hid_ (show decide (V = U) = true from decide_eq_true hv)
    have HS := hid_ (HSR.out _ EX.out)
    generalize decide (l = k) = z at *
    clear hv
    go_enter Try.func16, Try.ntmps16
    go_wp2_with (go_at_call 44; refine HS.out.mono ?_; rintro e w' ⟨rfl, q, rfl⟩)
    go_ret
    exact ⟨ret_bool (by rw [HB.out, Bool.true_and]), EX.out.drewN q⟩
  · have hb : (V == U) = false := by simpa using hv
    have HB := hid_ (show decide (V = U) = false from decide_eq_false hv)
    clear hv
    go_enter Try.func16, Try.ntmps16
    go_wp2_with fail
    go_ret
    exact ⟨ret_bool (by rw [HB.out, Bool.false_and]), EX.out⟩
end Go.Proofs.Ytpphaicbdeeacaa
