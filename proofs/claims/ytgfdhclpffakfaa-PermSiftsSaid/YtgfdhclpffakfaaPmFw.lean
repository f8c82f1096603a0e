/- Few at lists of rows, with its meaning; the representatives of a chain in a list. -/
import Derived.Test.YtgfdhclpffakfaaPmPe
namespace Go.Proofs.Ytgfdhclpffakfaa
set_option linter.unusedVariables false
set_option linter.unusedSimpArgs false
open Go.RowKit

def FewR (n : Nat) (lim : Int) (r : Ending) : Prop := ∃ b : Bool, r = .returned (.bool b) ∧ (b = true → (n : Int) ≤ lim)
theorem fewR_no (n : Nat) (lim : Int) : FewR n lim (.returned (.bool false)) := ⟨false, rfl, fun h => by cases h⟩
theorem fewR_yes {n : Nat} {lim : Int} (h : (n : Int) ≤ lim) : FewR n lim (.returned (.bool true)) := ⟨true, rfl, fun _ => h⟩

set_option maxRecDepth 100000 in
set_option maxHeartbeats 1000000 in
theorem FewL_any (w : World) (cols : Int) (rows : List (List Int)) (v : Value) (hv : MSl w v rows) (lim : Int) (hl0 : 0 ≤ lim) (hl1 : lim ≤ 1000) :
    Calls Try.prog 27 #[.agg #[.int .i64 cols, v], .int .i64 lim] w fun r w' => FewR rows.length lim r ∧ Ex w w' := by
  obtain ⟨d0, d1, e0⟩ := boxM2_facts w cols v
  obtain ⟨za, zc, rfl, z1, z2, z3⟩ := (hv.ex e0).open
  have Z3 := hid_ z3
  unfold maxLen at z2
  clear hv z3
  by_cases h1 : 260 < cols
  · go_enter Try.func27, Try.ntmps27
    go_wp2_with fail
    go_ret
    exact ⟨fewR_no _ _, e0⟩
  · have h1' : cols ≤ 260 := by omega
    clear h1
    by_cases h2 : lim < (rows.length : Int)
    · go_enter Try.func27, Try.ntmps27
      go_wp2_with fail
      go_ret
      exact ⟨fewR_no _ _, e0⟩
    · have h2' : (rows.length : Int) ≤ lim := by omega
      have b1 : decide (260 < cols) = false := by simp; omega
      have b2 : decide (lim < (rows.length : Int)) = false := by simp; omega
      clear h2
      go_enter Try.func27, Try.ntmps27
      go_wp2_with fail
      generalize w.alloc (.cells #[.int .i64 cols, .slice za rows.length zc] 42) = w1 at *
      go_loopw [5, 6] (fun l' i' wr => ∃ (i : Nat) (l : Int), i ≤ rows.length ∧ i' = .int .i64 i ∧ l' = .int .i64 l ∧ 0 ≤ l ∧ l ≤ 1000 ∧ wr = w1) (fun _ i' _ => rows.length - (intOf i').toNat)
      case atStart => exact ⟨0, _, by omega, rfl, rfl, by omega, by omega, rfl⟩
      case round =>
        obtain ⟨i, l, hi, rfl, rfl, l1, l2, rfl⟩ := hrel
        by_cases hlt : i < rows.length
        · obtain ⟨r, hr⟩ : ∃ r, rows[i]? = some r := ⟨_, List.getElem?_eq_getElem hlt⟩
          obtain ⟨bb, o, rfl, hc⟩ := Z3.out (by omega)
          obtain ⟨u, c1, hu⟩ := hc i r hr
          obtain ⟨ua, uc, rfl, u1, u2, u3⟩ := hu.open
          unfold maxLen at u2
          clear hc hu u3 hr
          by_cases h3 : l < (r.length : Int)
          · go_wp2_with fail
            go_ret
            exact ⟨fewR_no _ _, e0⟩
          · have h3' : (r.length : Int) ≤ l := by omega
            clear h3
            go_wp2_with fail
            go_roundw
            case rel => exact ⟨i + 1, _, by omega, by go_num, (by first | rfl | trivial), by omega, by omega, (by first | rfl | trivial)⟩
            case measure => simp [intOf]; omega
        · obtain rfl : i = rows.length := by omega
          go_wp2_with fail
          go_ret
          exact ⟨fewR_yes h2', e0⟩
theorem us_one {w : World} {us : List Value} {R : List (List Int)} (h : Sl w (.slice none 0 0) 0 1 [] → True) (hl : us.length = R.length) (hu : ∀ (i : Nat) (r : List Int) (u : Value), R[i]? = some r → us[i]? = some u → ISl w u r) : ∀ u ∈ us, u.oneCell' = true := fun u hm => by
  obtain ⟨i, hi, e⟩ := List.getElem_of_mem hm
  obtain ⟨_, _, rfl, _⟩ := (hu i _ u (List.getElem?_eq_getElem (by omega)) (by rw [List.getElem?_eq_getElem hi, e])).open
  rfl

set_option maxRecDepth 100000 in
set_option maxHeartbeats 4000000 in
theorem rGens_any (w : World) (d : Int) (L : List Lv) (lv : Value) (hL : LSl w lv L) (hg : (gensL L).length ≤ 1000) :
    Calls Try.prog 45 #[.agg #[.int .i64 d, lv]] w fun r w' => ∃ a c, r = .returned (.slice a (gensL L).length c) ∧ MSl w' (.slice a (gensL L).length c) (gensL L) ∧ Ex w w' := by
  obtain ⟨d0, d1, e0⟩ := boxCh_facts w d lv
  obtain ⟨za, zc, rfl, z1, z2, z3⟩ := (hL.ex e0).open3
  unfold maxLen at z2
  have Z3 := hid_ z3
  clear z3 hL
  go_enter Try.func45, Try.ntmps45
  go_wp2_with fail
  obtain ⟨q, hq⟩ : ∃ q, w.heap.size = q := ⟨_, rfl⟩
  rw [hq] at d0 d1
  try simp only [hq]
  clear hq
  generalize w.alloc (.cells #[.int .i64 d, .slice za L.length zc] 46) = w1 at *
  have HE0 := hid_ e0
  have D1 := hid_ d1
  clear e0 d0 d1
  go_loopw [3, 4] (fun gv' k' wr => ∃ (k : Nat) (vals : List Value), k ≤ L.length ∧ k' = .int .i64 k ∧ Hid (GnsW w1 wr gv' (gensL (L.take k)) vals)) (fun _ k' _ => L.length - (intOf k').toNat)
  case atStart => exact ⟨0, [], by omega, rfl, hid_ (GnsW.nil w1)⟩
  case round =>
    obtain ⟨k, vals, hk, rfl, hgn⟩ := hrel
    have hml := gensL_le L k
    obtain ⟨ga, gc, rfl⟩ := own_shape hgn.out.own
    have d1 := hgn.out.ex.cell D1.out
    by_cases hkl : k < L.length
    · obtain ⟨l, hl⟩ : ∃ l, L[k]? = some l := ⟨_, List.getElem?_eq_getElem hkl⟩
      obtain ⟨zb, zo, rfl, hzc⟩ := Z3.out (by omega)
      obtain ⟨u, r, c0, c1, c2, hu, hr⟩ := hzc k l hl
      have c2 := hgn.out.ex.cell c2
      obtain ⟨ra, rc, rfl, _, _, _⟩ := hr.open
      obtain ⟨us, HUS, hul, hus⟩ := hr.vals
      have i1 : (0 : Int) ≤ (k : Int) := by omega
      have i2 : (k : Int) < (L.length : Int) := by omega
      have HUR := hid_ hus
      have HON := hid_ (us_one (fun _ => trivial) hul hus)
      have hml2 := gensL_le L (k + 1)
      have HGT := hid_ (gensL_take hl)
      rw [HGT.out, List.length_append] at hml2
      have HB := hid_ hgn.out.ex.size
      have HOW := hid_ hgn.out.own
      have HXS := hid_ (HUS.ex hgn.out.ex)
      clear hzc hl hu hr HUS hus c0 c1
      go_wp2_with (at_builtin; refine wpList_append_sl _ rfl _ _ 28 rfl w1.heap.size 22 (.slice none 0 0) 1 24 Try.underlying28 infoIntsL rfl (by decide) (.slice ga (gensL (L.take k)).length gc) (gensL (L.take k)).length vals rfl HOW.out (.slice ra l.reps.length rc) l.reps.length us rfl HXS.out HON.out (by unfold maxLen; omega) (by omega) HB.out ?_; intro v' w' hown hg hb; have HG1 := hid_ (hgn.out.app (R := l.reps) (us := us) (fun i r u a b => HUR.out i r u a b) hown (Ex.grown hgn.out.ex HOW.out (Nat.le_refl _) hg)); obtain ⟨oa', oc', rfl⟩ := own_shape hown; clear hown hg hb)
      go_roundw
      case rel => exact ⟨k + 1, _, by omega, by go_num, by rw [HGT.out]; exact HG1⟩
      case measure => simp [intOf]; omega
    · obtain rfl : k = L.length := by omega
      have htk : gensL (L.take L.length) = gensL L := by rw [List.take_length]
      rw [htk] at hgn ⊢
      go_wp2_with fail
      go_ret
      exact ⟨ga, gc, rfl, hgn.out.msl, HE0.out.trans hgn.out.ex⟩
end Go.Proofs.Ytgfdhclpffakfaa
