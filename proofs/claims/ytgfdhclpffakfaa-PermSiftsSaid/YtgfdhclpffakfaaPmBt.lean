/- Walk of the reference's Few at chains. -/
import Derived.Test.YtgfdhclpffakfaaPmBs
import Derived.Test.YtgfdhclpffakfaaPmFw
namespace Go.Proofs.Ytgfdhclpffakfaa
set_option linter.unusedVariables false
set_option linter.unusedSimpArgs false
open Go.RowKit

def FewCR (d : Int) (L : List Lv) (r : Ending) : Prop := ∃ b : Bool, r = .returned (.bool b) ∧ (b = true → (d ≤ 6 ∨ 64 < d) ∧ (gensL L).length ≤ 200)
theorem fewCR_no (d : Int) (L : List Lv) : FewCR d L (.returned (.bool false)) := ⟨false, rfl, fun h => by cases h⟩

set_option maxRecDepth 100000 in
set_option maxHeartbeats 4000000 in
theorem rFew2_any (w : World) (d : Int) (L : List Lv) (lv : Value) (hL : LSl w lv L) :
    Calls Try.prog 33 #[.agg #[.int .i64 d, lv], .int .i64 6] w fun r w' => FewCR d L r ∧ Ex w w' := by
  obtain ⟨d0, d1, e0⟩ := boxCh_facts w d lv
  obtain ⟨za, zc, rfl, z1, z2, z3⟩ := (hL.ex e0).open3
  unfold maxLen at z2
  have Z3 := hid_ z3
  clear z3 hL
  by_cases hd : 6 < d ∧ d ≤ 64
  · have b1 : decide (6 < d) = true := by simp; omega
    have b2 : decide (d ≤ 64) = true := by simp; omega
    go_enter Try.func33, Try.ntmps33
    go_wp2_with fail
    go_ret
    exact ⟨fewCR_no _ _, e0⟩
  · have hd6 : d ≤ 6 ∨ 64 < d := by omega
    have HD6 := hid_ hd6
    by_cases hl70 : L.length ≤ 70
    · have b3 : decide (70 < (L.length : Int)) = false := by simp; omega
      have b4 : decide (70 < L.length) = false := by simp; omega
      have HG0 := hid_ (show ∀ i, i ≤ L.length → (∀ l ∈ L.take i, l.reps.length ≤ 1000) → (gensL (L.take i)).length ≤ 1000 * i from fun i hi => by
        intro h
        have key : ∀ K : List Lv, (∀ l ∈ K, l.reps.length ≤ 1000) → (gensL K).length ≤ 1000 * K.length := by
          intro K
          induction K with
          | nil => intro _; exact Nat.le_refl _
          | cons a K ih =>
            intro hk
            have h1 := ih fun l hl => hk l (List.mem_cons_of_mem _ hl)
            have h2 := hk a (List.mem_cons_self ..)
            unfold gensL at h1 ⊢
            rw [List.flatMap_cons, List.length_append, List.length_cons]
            omega
        have := key _ h
        rw [List.length_take, Nat.min_eq_left hi] at this
        exact this)
      have hcase : decide (6 < d) = false ∨ (decide (6 < d) = true ∧ decide (d ≤ 64) = false) := by
        rcases hd6 with h | h
        · exact .inl (decide_eq_false (by omega))
        · exact .inr ⟨decide_eq_true (by omega), decide_eq_false (by omega)⟩
      clear hd hd6
      go_enter Try.func33, Try.ntmps33
      rcases hcase with b1 | ⟨b1, b2⟩
      all_goals
        go_wp2_with fail
        obtain ⟨q, hq⟩ : ∃ q, w.heap.size = q := ⟨_, rfl⟩
        rw [hq] at d0 d1
        try simp only [hq]
        clear hq
        generalize w.alloc (.cells #[.int .i64 d, .slice za L.length zc] 46) = w1 at *
        have HE0 := hid_ e0
        have D1 := hid_ d1
        clear e0 d0 d1
        go_loopw [5, 6] (fun n' i' wr => ∃ (i : Nat), i ≤ L.length ∧ i' = .int .i64 i ∧ n' = .int .i64 ((gensL (L.take i)).length : Int) ∧ Hid (∀ l ∈ L.take i, l.reps.length ≤ 1000) ∧ Hid (Ex w1 wr)) (fun _ i' _ => L.length - (intOf i').toNat)
        case atStart => exact ⟨0, by omega, rfl, rfl, hid_ (fun l h => by simp at h), hid_ (Ex.refl _)⟩
        case round =>
          obtain ⟨i, hi, rfl, rfl, hall, hex⟩ := hrel
          have d1 := hex.out.cell D1.out
          have hg1 := HG0.out i hi hall.out
          obtain ⟨G, hG⟩ : ∃ G, (gensL (L.take i)).length = G := ⟨_, rfl⟩
          rw [hG] at hg1 ⊢
          have HGE := hid_ hG
          clear hG
          by_cases hil : i < L.length
          · obtain ⟨l, hl⟩ : ∃ l, L[i]? = some l := ⟨_, List.getElem?_eq_getElem hil⟩
            obtain ⟨zb, zo, rfl, hzc⟩ := Z3.out (by omega)
            obtain ⟨u, r, c0, c1, c2, hu, hr⟩ := hzc i l hl
            have c1 := hex.out.cell c1
            have c2 := hex.out.cell c2
            obtain ⟨oa, oc, rfl, _, o2, _⟩ := hu.open
            unfold maxLen at o2
            have hrx := hr.ex hex.out
            obtain ⟨ra, rc, rfl, _, r2, _⟩ := hr.open
            unfold maxLen at r2
            have HFW := hid_ (FewL_any wr 0 l.reps _ hrx 1000 (by omega) (by omega))
            have i1 : (0 : Int) ≤ (i : Int) := by omega
            have i2 : (i : Int) < (L.length : Int) := by omega
            have HGT := hid_ (gensL_take hl)
            have HTK := hid_ (show l.reps.length ≤ 1000 → ∀ x ∈ L.take (i + 1), x.reps.length ≤ 1000 from fun h x hx => by
              rw [List.take_add_one, hl] at hx
              rcases List.mem_append.1 hx with h1 | h1
              · exact hall.out x h1
              · rw [List.mem_singleton.1 h1]; exact h)
            clear hzc hl hu hr hrx hall c0
            by_cases ho : 100 < (l.orb.length : Int)
            · have e1 : decide (100 < (l.orb.length : Int)) = true := by simpa using ho
              go_wp2_with fail
              go_ret
              exact ⟨fewCR_no _ _, HE0.out.trans hex.out⟩
            · have e1 : decide (100 < (l.orb.length : Int)) = false := by simpa using ho
              clear ho
              go_wp2_with fail
              refine HFW.out.mono ?_
              rintro e w5 ⟨⟨bb, rfl, hbb⟩, hx5⟩
              have c1 := hx5.cell c1
              have c2 := hx5.cell c2
              have d1 := hx5.cell d1
              have HX5 := hid_ (hex.out.trans hx5)
              clear hx5
              cases bb with
              | false =>
                clear hbb
                go_wp2_with fail
                go_ret
                exact ⟨fewCR_no _ _, HE0.out.trans HX5.out⟩
              | true =>
                have hle := hbb rfl
                have HTK2 := hid_ (HTK.out (by omega))
                have HLG := hid_ (show (gensL (L.take (i + 1))).length = G + l.reps.length from by rw [HGT.out, List.length_append, HGE.out])
                clear hbb
                go_wp2_with fail
                go_roundw
                case rel => exact ⟨i + 1, by omega, by go_num, by rw [HLG.out]; go_num, HTK2, HX5⟩
                case measure => simp [intOf]; omega
          · obtain rfl : i = L.length := by omega
            have hGL : (gensL L).length = G := by have := HGE.out; rwa [List.take_length] at this
            have HGL := hid_ hGL
            clear hGL hall
            go_wp2_with fail
            go_ret
            exact ⟨⟨_, rfl, fun h => ⟨HD6.out, by rw [HGL.out]; have := of_decide_eq_true h; omega⟩⟩, HE0.out.trans hex.out⟩
    · have b3 : decide (70 < (L.length : Int)) = true := by simp; omega
      have b4 : decide (70 < L.length) = true := by simp; omega
      have hcase : decide (6 < d) = false ∨ (decide (6 < d) = true ∧ decide (d ≤ 64) = false) := by
        rcases hd6 with h | h
        · exact .inl (decide_eq_false (by omega))
        · exact .inr ⟨decide_eq_true (by omega), decide_eq_false (by omega)⟩
      clear hd hd6
      go_enter Try.func33, Try.ntmps33
      rcases hcase with b1 | ⟨b1, b2⟩
      all_goals
        go_wp2_with fail
        go_ret
        exact ⟨fewCR_no _ _, e0⟩
end Go.Proofs.Ytgfdhclpffakfaa
