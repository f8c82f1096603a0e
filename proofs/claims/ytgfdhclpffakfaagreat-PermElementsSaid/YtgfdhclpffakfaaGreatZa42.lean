/- Walk of the reference's Sift, Has and Size. -/
import Derived.Test.YtgfdhclpffakfaaGreatZa30
import Derived.Test.YtgfdhclpffakfaaGreatZa41
namespace Go.Proofs.YtgfdhclpffakfaaGreat
set_option linter.unusedVariables false
set_option linter.unusedSimpArgs false
open Go.RowKit

def SfR (l : List Int) (k : Nat) (r : Ending) (w' : World) : Prop := ∃ v, r = .returned (.tuple #[v, .int .i64 (k : Int)]) ∧ ISl w' v l
set_option maxRecDepth 100000 in
set_option maxHeartbeats 8000000 in
theorem rSift_any (w : World) (n : Nat) (S : List (Nat → Nat)) (L : List Lv) (hLS : L = (ptsK n S).map (levB n S)) (hS : ∀ s ∈ S, IsP n s) (hn1 : 1 ≤ n) (hn : n ≤ 64) (lv : Value) (hL : LSl w lv L) (f : Nat → Nat) (hf : IsP n f) (pv : Value) (hp : ISl w pv (li n f)) :
    Calls Tryz.prog 39 #[.agg #[.int .i64 n, lv], pv] w fun r w' => SfR (li n (sftA n S (ptsK n S) f 0).1) (sftA n S (ptsK n S) f 0).2 r w' ∧ Ex w w' := by
  obtain ⟨d0, d1, e0⟩ := boxCh_facts w n lv
  obtain ⟨za, zc, rfl, z1, z2, z3⟩ := (hL.ex e0).open3
  unfold maxLen at z2
  have Z3 := hid_ z3
  have HP := hid_ (hp.ex e0)
  obtain ⟨pa, pc, rfl, _, _, _⟩ := isl_li hp
  clear z3 hL hp
  obtain ⟨RES, hRES⟩ : ∃ RES, sftA n S (ptsK n S) f 0 = RES := ⟨_, rfl⟩
  have HRES := hid_ hRES
  rw [hRES]
  have HS := hid_ hS
  have HLS := hid_ hLS
  have HFP := hid_ hf
  obtain ⟨pt, hpts⟩ : ∃ pt, ptsK n S = pt := ⟨_, rfl⟩
  have HPT := hid_ (show ∀ b ∈ pt, b < n from fun b hb => by
    rw [← hpts] at hb
    unfold ptsK at hb
    exact List.mem_range.1 (List.mem_filter.1 hb).1)
  rw [hpts] at HRES HLS
  have hll : L.length = pt.length := by rw [HLS.out, List.length_map]
  have HLL := hid_ hll
  have hptl : pt.length ≤ n := by
    rw [← hpts]; unfold ptsK
    have := List.length_filter_le (fun b => decide (1 < (orbM S b n).length)) (List.range n)
    rw [List.length_range] at this
    exact this
  have hll2 : L.length ≤ 64 := by omega
  clear hRES hS hLS hf hpts hll hptl
  go_enter Tryz.func39, Tryz.ntmps39
  go_wp2_with fail
  obtain ⟨q, hq⟩ : ∃ q, w.heap.size = q := ⟨_, rfl⟩
  rw [hq] at d0 d1
  try simp only [hq]
  clear hq
  generalize w.alloc (.cells #[.int .i64 (n : Int), .slice za L.length zc] 24) = w1 at *
  have HE0 := hid_ e0
  have D1 := hid_ d1
  clear e0 d0 d1
  go_loopw [1, 6] (fun o' k' wr => ∃ (k : Nat) (g : Nat → Nat), k ≤ L.length ∧ k' = .int .i64 k ∧ Hid (IsP n g) ∧ Hid (ISl wr o' (li n g)) ∧ Hid (RES = sftA n S (pt.drop k) g k) ∧ Hid (Ex w1 wr)) (fun _ k' _ => L.length - (intOf k').toNat)
  case atStart => exact ⟨0, f, by omega, rfl, HFP, HP, hid_ HRES.out.symm, hid_ (Ex.refl _)⟩
  case round =>
    clear HP
    obtain ⟨k, g, hk, rfl, hgP, hgl, hre, hex⟩ := hrel
    obtain ⟨oa, oc, rfl, _, _, _⟩ := isl_li hgl.out
    obtain ⟨ob, oo, rfl, _, hoc⟩ := isl_li_at hgl.out (by omega)
    have d1 := hex.out.cell D1.out
    by_cases hkl : k < L.length
    · obtain ⟨b, hb⟩ : ∃ b, pt[k]? = some b := ⟨_, List.getElem?_eq_getElem (by rw [← HLL.out]; exact hkl)⟩
      have hbn := HPT.out b (List.mem_of_getElem? hb)
      have hl : L[k]? = some (levB n S b) := by rw [HLS.out, List.getElem?_map, hb]; rfl
      have hdr : pt.drop k = b :: pt.drop (k + 1) := by
        have h1 := (List.getElem?_eq_some_iff.1 hb).1
        rw [List.drop_eq_getElem_cons h1]
        have h2 := (List.getElem?_eq_some_iff.1 hb).2
        rw [h2]
      obtain ⟨zb, zo, rfl, hzc⟩ := Z3.out (by omega)
      obtain ⟨u, r, c0, c1, c2, hu, hr⟩ := hzc k _ hl
      have EXX := hid_ hex.out
      have c0 : wr.cell? ⟨zb, zo + k * 3, none⟩ = some (.int .i64 (b : Int)) := EXX.out.cell c0
      have c1 := EXX.out.cell c1
      have c2 := EXX.out.cell c2
      have hu : ISl w1 u (il' (orbM S b n)) := hu
      have hr : MSl w1 r ((orbM S b n).map fun x => li n (lstP n S b x)) := hr
      have HMO := hid_ (fun y => mem_orbM (S := S) (b := b) (m := n) (x := y))
      obtain ⟨Q, hQ⟩ : ∃ Q, orbM S b n = Q := ⟨_, rfl⟩
      have hQl : Q.length ≤ 64 := by rw [← hQ]; have := orbM_len S b n; omega
      obtain ⟨R, hR⟩ : ∃ R, (Q.map fun x => li n (lstP n S b x)) = R := ⟨_, rfl⟩
      rw [hQ] at hu hr HMO
      rw [hR] at hr
      have HQR := hid_ hR
      have hun : sftA n S (b :: pt.drop (k + 1)) g k = if g b ∈ Q then sftA n S (pt.drop (k + 1)) (thenP g (invP n (lstP n S b (g b)))) (k + 1) else (g, k) := by rw [← hQ]; rfl
      have HUN := hid_ (hre.out.trans ((by rw [hdr] : sftA n S (pt.drop k) g k = sftA n S (b :: pt.drop (k + 1)) g k).trans hun))
      have HU := hid_ (hu.ex EXX.out)
      have HRR := hid_ (hr.ex EXX.out)
      obtain ⟨ua, uc, rfl, _, _, _⟩ := hu.open
      obtain ⟨ra, rc, rfl, _, _, _⟩ := hr.open
      have co := hoc b hbn
      have i1 : (0 : Int) ≤ (k : Int) := by omega
      have i2 : (k : Int) < (L.length : Int) := by omega
      have i3 : (0 : Int) ≤ (b : Int) := by omega
      have i4 : (b : Int) < (n : Int) := by omega
      obtain ⟨y, hy⟩ : ∃ y, g b = y := ⟨_, rfl⟩
      rw [hy] at co HUN
      obtain ⟨b0, b1, b2, eb⟩ := boxLv_facts wr (b : Int) (.slice ua (il' Q).length uc) (.slice ra R.length rc)
      have co := eb.cell co
      have HYE := hid_ hy
      have EB := hid_ eb
      clear hdr hl hzc hb hu hr hQ hR hun hoc eb hy hre
      go_wp2_with fail
      obtain ⟨bb, hbb⟩ : ∃ bb, wr.heap.size = bb := ⟨_, rfl⟩
      rw [hbb] at b0 b1 b2
      try simp only [hbb]
      clear hbb c0 c1 c2 d1
      obtain ⟨W, hW⟩ : ∃ W, (wr.alloc (.cells #[.int .i64 (b : Int), .slice ua (il' Q).length uc, .slice ra R.length rc] 56)) = W := ⟨_, rfl⟩
      rw [hW] at b0 b1 b2 co EB ⊢
      clear hW
      have B0 := hid_ b0
      have B1 := hid_ b1
      have B2 := hid_ b2
      have CO := hid_ co
      have hil : (il' Q).length = Q.length := il'_len Q
      have HQU := hid_ (HU.out.ex EB.out)
      obtain ⟨_, _, eu, _, u2, u3⟩ := HQU.out.open
      injection eu with eu1 eu2 eu3
      subst eu1
      clear eu2 eu3
      have U3 := hid_ u3
      rw [hil] at U3
      clear u3 b0 b1 b2 co
      rw [hil]
      go_loopw [8, 9] (fun a' j' wt => ∃ (j : Nat) (a : Int), j ≤ Q.length ∧ j' = .int .i64 j ∧ a' = .int .i64 a ∧ Hid ((a = -1 ∧ ∀ i, i < j → Q[i]? ≠ some y) ∨ ∃ i : Nat, i < j ∧ a = i ∧ Q[i]? = some y) ∧ Hid (Ex W wt)) (fun _ j' _ => Q.length - (intOf j').toNat)
      case atStart => exact ⟨0, -1, by omega, rfl, rfl, hid_ (.inl ⟨rfl, fun i h => by omega⟩), hid_ (Ex.refl _)⟩
      case round =>
        obtain ⟨j, a, hj, rfl, rfl, hat, hwx⟩ := hrel
        have b0 := hwx.out.cell B0.out
        have b1 := hwx.out.cell B1.out
        have co := hwx.out.cell CO.out
        by_cases hjq : j < Q.length
        · obtain ⟨x, hx⟩ : ∃ x, Q[j]? = some x := ⟨_, List.getElem?_eq_getElem hjq⟩
          obtain ⟨yb, yo, rfl, hyc⟩ := U3.out (by omega)
          have cx := hwx.out.cell (hyc j (x : Int) (il'_get hx))
          have i5 : (0 : Int) ≤ (j : Int) := by omega
          have i6 : (j : Int) < (Q.length : Int) := by omega
          by_cases hxy : x = y
          · have bq : ((x : Int) == (y : Int)) = true := by simp; omega
            have bq2 : (x == y) = true := by simpa using hxy
            have HAT := hid_ (show (((j : Int) = -1 ∧ ∀ i, i < j + 1 → Q[i]? ≠ some y) ∨ ∃ i : Nat, i < j + 1 ∧ (j : Int) = i ∧ Q[i]? = some y) from .inr ⟨j, by omega, rfl, by rw [hx, hxy]⟩)
            clear hx hyc hxy hat
            go_wp2_with fail
            go_quiet (fail)
            go_wp2_with fail
            go_roundw
            case rel => first | exact ⟨j + 1, j, by omega, by go_num, rfl, HAT, hid_ (hwx.out.drewN _)⟩ | ((repeat apply Exists.intro); exact ⟨⟨j + 1, j, by omega, by go_num, rfl, HAT, hid_ (hwx.out.drewN _)⟩, rfl⟩)
            case measure => simp [intOf]; omega
          · have bq : ((x : Int) == (y : Int)) = false := by simp; omega
            have bq2 : (x == y) = false := by simpa using hxy
            have HAT := hid_ (show ((a = -1 ∧ ∀ i, i < j + 1 → Q[i]? ≠ some y) ∨ ∃ i : Nat, i < j + 1 ∧ a = i ∧ Q[i]? = some y) from by
              rcases hat.out with ⟨h1, h2⟩ | ⟨i, h1, h2, h3⟩
              · exact .inl ⟨h1, fun i hi e => by
                  by_cases e2 : i = j
                  · subst e2; rw [hx] at e; injection e with e; exact hxy e
                  · exact h2 i (by omega) e⟩
              · exact .inr ⟨i, by omega, h2, h3⟩)
            clear hx hyc hxy hat
            go_wp2_with fail
            go_quiet (fail)
            go_wp2_with fail
            go_roundw
            case rel => first | exact ⟨j + 1, a, by omega, by go_num, rfl, HAT, hid_ (hwx.out.drewN _)⟩ | ((repeat apply Exists.intro); exact ⟨⟨j + 1, a, by omega, by go_num, rfl, HAT, hid_ (hwx.out.drewN _)⟩, rfl⟩)
            case measure => simp [intOf]; omega
        · obtain rfl : j = Q.length := by omega
          rcases hat.out with ⟨rfl, h2⟩ | ⟨i, hiq, rfl, hi⟩
          · have hm : ¬ y ∈ Q := fun hm => by
              obtain ⟨i, hi, e⟩ := List.getElem_of_mem hm
              exact h2 i hi (by rw [List.getElem?_eq_getElem hi, e])
            have HR := hid_ (show RES = (g, k) from by have := HUN.out; rwa [if_neg hm] at this)
            clear hm h2 hat
            go_wp2_with fail
            exact bodyPost_ret (v := .tuple #[.slice (some ⟨ob, oo, none⟩) n oc, .int .i64 (k : Nat)]) (by simp [results, Tryz.results39, go_sem]) rfl ⟨⟨_, by rw [HR.out], by rw [HR.out]; exact hgl.out.ex (EB.out.trans hwx.out)⟩, HE0.out.trans (hex.out.trans (EB.out.trans hwx.out))⟩
          · have hm : y ∈ Q := List.mem_of_getElem? hi
            have hun := HUN.out
            rw [if_pos hm] at hun
            obtain ⟨x, hx⟩ : ∃ x, lstP n S b y = x := ⟨_, rfl⟩
            have hlst := (lst_of_orb HS.out ((HMO.out y).1 hm).2).gn.isP HS.out (n := n)
            rw [hx] at hun hlst
            have HUN2 := hid_ hun
            have HXP := hid_ hlst
            have hRi : R[i]? = some (li n x) := by rw [← HQR.out, List.getElem?_map, hi, ← hx]; rfl
            have hiQ := (List.getElem?_eq_some_iff.1 hRi).1
            have b2 := hwx.out.cell B2.out
            obtain ⟨_, _, er, _, _, hrc⟩ := HRR.out.open
            injection er with er1 er2 er3
            subst er1
            clear er2 er3
            obtain ⟨rb, ro, rfl, hrr⟩ := hrc (by omega)
            obtain ⟨v, hv1, hv2⟩ := hrr i _ hRi
            have EW := hid_ (EB.out.trans hwx.out)
            have HV2 := hid_ (hv2.ex EW.out)
            have cv := EW.out.cell hv1
            obtain ⟨va, vc, rfl, _, _, _⟩ := isl_li hv2
            have i5 : (0 : Int) ≤ (i : Int) := by omega
            have i6 : (i : Int) < (R.length : Int) := by omega
            have HIV := hid_ (rBack_any wr n x _ HV2.out (by omega) HXP.out)
            have HGP := hid_ (hgP.out.comp HXP.out.inv)
            have HGL := hid_ (hgl.out.ex EW.out)
            have HGT := hid_ hgP.out.lt
            clear hm hi hx hlst hRi hrc hrr hv1 hv2 hiQ hun hat hiq
            go_wp2_with (first | (go_at_call 64; refine HIV.out.mono ?_; rintro e w6 ⟨ig, rfl, ho6, hx6⟩; have HO6 := hid_ ho6.li; have HX6 := hid_ hx6; clear ho6 hx6) | (go_at_call 63; refine (rThen_any w6 n g (invP n x) _ _ (HGL.out.ex HX6.out) HO6.out (by omega) HGT.out).mono ?_; rintro e w7 ⟨tg, rfl, ho7, hx7⟩; have HO7 := hid_ ho7.li; have HX7 := hid_ (HX6.out.trans hx7); clear ho7 hx7))
            go_roundw
            case rel => first | exact ⟨k + 1, _, by omega, by go_num, HGP, HO7, HUN2, hid_ (hex.out.trans (EW.out.trans HX7.out))⟩ | ((repeat apply Exists.intro); exact ⟨⟨k + 1, _, by omega, by go_num, HGP, HO7, HUN2, hid_ (hex.out.trans (EW.out.trans HX7.out))⟩, rfl⟩)
            case measure => simp [intOf]; omega
    · obtain rfl : k = L.length := by omega
      have hr : RES = (g, L.length) := hre.out.trans (by rw [HLL.out, List.drop_length]; rfl)
      go_wp2_with fail
      go_quiet (fail)
      go_wp2_with fail
      exact bodyPost_ret (v := .tuple #[.slice (some ⟨ob, oo, none⟩) n oc, .int .i64 (L.length : Nat)]) (by simp [results, Tryz.results39, go_sem]) rfl ⟨⟨_, by rw [hr], by rw [hr]; exact hgl.out.ex ((Ex.refl wr).drewN _)⟩, HE0.out.trans (hex.out.drewN _)⟩
set_option maxRecDepth 100000 in
set_option maxHeartbeats 4000000 in
theorem rHas_any (w : World) (n : Nat) (S : List (Nat → Nat)) (L : List Lv) (hLS : L = (ptsK n S).map (levB n S)) (hS : ∀ s ∈ S, IsP n s) (hn1 : 1 ≤ n) (hn : n ≤ 64) (lv : Value) (hL : LSl w lv L) (f : Nat → Nat) (hf : IsP n f) (pv : Value) (hp : ISl w pv (li n f)) :
    Calls Tryz.prog 9 #[.agg #[.int .i64 n, lv], pv] w fun r w' => r = .returned (.bool (decide ((sftA n S (ptsK n S) f 0).2 = L.length ∧ li n (sftA n S (ptsK n S) f 0).1 = li n idP))) ∧ Ex w w' := by
  obtain ⟨d0, d1, e0⟩ := boxCh_facts w n lv
  have HSF := hid_ (rSift_any _ n S L hLS hS hn1 hn lv (hL.ex e0) f hf pv (hp.ex e0))
  have HSL := hid_ (sftA_le n S (ptsK n S) f 0)
  have hll : L.length = (ptsK n S).length := by rw [hLS, List.length_map]
  have hll2 : L.length ≤ 64 := by
    have := List.length_filter_le (fun b => decide (1 < (orbM S b n).length)) (List.range n)
    rw [List.length_range] at this
    unfold ptsK at hll
    omega
  obtain ⟨za, zc, rfl, _, z2, _⟩ := hL.open3
  unfold maxLen at z2
  obtain ⟨pa, pc, rfl, _, _, _⟩ := isl_li hp
  have HE0 := hid_ e0
  have HLL := hid_ hll
  obtain ⟨g, hg⟩ : ∃ g, (sftA n S (ptsK n S) f 0).1 = g := ⟨_, rfl⟩
  obtain ⟨k, hk⟩ : ∃ k, (sftA n S (ptsK n S) f 0).2 = k := ⟨_, rfl⟩
  rw [hg, hk] at HSF ⊢
  rw [hk] at HSL
  have hk64 : k ≤ 64 := by have := HSL.out; rw [Nat.zero_add, ← hll] at this; omega
  clear hg hk hLS hS hL hf hp hll HSL
  go_enter Tryz.func9, Tryz.ntmps9
  go_wp2_with fail
  obtain ⟨q, hq⟩ : ∃ q, w.heap.size = q := ⟨_, rfl⟩
  rw [hq] at d0 d1
  try simp only [hq]
  clear hq
  generalize w.alloc (.cells #[.int .i64 (n : Int), .slice za L.length zc] 24) = w1 at *
  have D1 := hid_ d1
  refine HSF.out.mono ?_
  rintro e w2 ⟨⟨v, rfl, hv⟩, hx2⟩
  obtain ⟨va, vc, rfl, _, _, _⟩ := isl_li hv
  have HV := hid_ hv
  have HX2 := hid_ hx2
  have d1 := hx2.cell D1.out
  clear hv hx2 d0
  by_cases hkl : k = L.length
  · have b1 : ((k : Int) == (L.length : Int)) = true := by simp; omega
    have b2 : (k == L.length) = true := by simpa using hkl
    have HUN := hid_ (rUnit_any w2 n (by omega))
    go_wp2_with (first | (go_at_call 40; refine HUN.out.mono ?_; rintro e w4 ⟨gu, rfl, hown4, hx4⟩; have HS4 := hid_ (SameInts_any w4 _ _ _ _ (HV.out.ex hx4) hown4.li); have HX4 := hid_ hx4; clear hown4 hx4) | (go_at_call 20; refine HS4.out.mono ?_; rintro e w5 ⟨rfl, n5, hw5⟩; have HX5 := hid_ (show Ex w4 w5 from by rw [hw5]; exact (Ex.refl w4).drewN n5); clear hw5))
    go_ret
    exact ⟨ret_bool (by
      by_cases h : li n g = li n idP
      · rw [decide_eq_true h, decide_eq_true ⟨hkl, h⟩]
      · rw [decide_eq_false h, decide_eq_false (fun k => h k.2)]), HE0.out.trans (HX2.out.trans (HX4.out.trans HX5.out))⟩
  · have b1 : ((k : Int) == (L.length : Int)) = false := by simp; omega
    have b2 : (k == L.length) = false := by simpa using hkl
    go_wp2_with fail
    go_ret
    exact ⟨ret_bool (decide_eq_false (fun h => hkl h.1)).symm, HE0.out.trans HX2.out⟩
theorem rMul2 {w : World} {u v : Value} {x y : Nat} (hu : NSl w u x) (hv : NSl w v y) (hx : SmallN x) (hy : SmallN y) :
    Calls Tryz.prog 41 #[u, v] w fun r w' => (∃ u, r = .returned u ∧ NSl w' u (x * y)) ∧ Ex w w' := by
  obtain ⟨n, f, h1, h2, h3⟩ := hu
  obtain ⟨m, g, k1, k2, k3⟩ := hv
  have hn := hx.len h1 h2
  have hm := hy.len k1 k2
  have := rMul_any w n m f g u v h3 k3 h1.1 k1.1 (by omega) (by omega)
  rw [h2, k2] at this
  exact this
set_option maxRecDepth 100000 in
set_option maxHeartbeats 4000000 in
theorem rSize_any (w : World) (d : Int) (L : List Lv) (lv : Value) (hL : LSl w lv L) (hol : ∀ l ∈ L, l.orb.length ≤ 64) (hll : L.length ≤ 64) :
    Calls Tryz.prog 12 #[.agg #[.int .i64 d, lv]] w fun r w' => (∃ v, r = .returned v ∧ NSl w' v (sizL L)) ∧ Ex w w' := by
  obtain ⟨d0, d1, e0⟩ := boxCh_facts w d lv
  obtain ⟨za, zc, rfl, z1, z2, z3⟩ := (hL.ex e0).open3
  unfold maxLen at z2
  have Z3 := hid_ z3
  have HOL := hid_ hol
  have HSM := hid_ (sizL_small (L := L) hol)
  clear z3 hL hol
  go_enter Tryz.func12, Tryz.ntmps12
  go_wp2_with fail
  obtain ⟨q, hq⟩ : ∃ q, w.heap.size = q := ⟨_, rfl⟩
  rw [hq] at d0 d1
  try simp only [hq]
  clear hq
  generalize w.alloc (.cells #[.int .i64 d, .slice za L.length zc] 24) = w1 at *
  have HE0 := hid_ e0
  have D1 := hid_ d1
  clear e0 d0 d1
  refine (rOf_any w1 1 (by omega)).mono ?_
  rintro e w3 ⟨⟨u, rfl, hu⟩, hx3⟩
  have HU := hid_ hu
  have HX3 := hid_ hx3
  obtain ⟨_, _, _, _, h5⟩ := id hu
  obtain ⟨ya, yc, rfl, _, _, _⟩ := h5.open
  clear hu hx3 h5
  go_wp2_with fail
  go_loopw [3, 4] (fun p' k' wr => ∃ (k : Nat), k ≤ L.length ∧ k' = .int .i64 k ∧ Hid (NSl wr p' (sizL (L.take k))) ∧ Hid (Ex w3 wr)) (fun _ k' _ => L.length - (intOf k').toNat)
  case atStart => exact ⟨0, by omega, rfl, HU, hid_ (Ex.refl _)⟩
  case round =>
    clear HU
    obtain ⟨k, hk, rfl, hn, hex⟩ := hrel
    obtain ⟨pn, pf, _, _, hp3⟩ := id hn.out
    obtain ⟨pa, pc, rfl, _, _, _⟩ := hp3.open
    clear hp3
    have EXX := hid_ (HX3.out.trans hex.out)
    have d1 := EXX.out.cell D1.out
    by_cases hkl : k < L.length
    · obtain ⟨l, hl⟩ : ∃ l, L[k]? = some l := ⟨_, List.getElem?_eq_getElem hkl⟩
      obtain ⟨zb, zo, rfl, hzc⟩ := Z3.out (by omega)
      obtain ⟨u, r, c0, c1, c2, hu, hr⟩ := hzc k l hl
      have c1 := EXX.out.cell c1
      obtain ⟨oa, oc, rfl, _, _, _⟩ := hu.open
      have i1 : (0 : Int) ≤ (k : Int) := by omega
      have i2 : (k : Int) < (L.length : Int) := by omega
      have hol := HOL.out l (List.mem_of_getElem? hl)
      have e1 : IntKind.u64.wrap (l.orb.length : Int) = (l.orb.length : Int) := by rw [IntKind.wrap_u64]; omega
      have HOF2 := hid_ (rOf_any wr l.orb.length (by omega))
      have HN := hid_ hn.out
      have HST := hid_ (sizL_take hl)
      have HS1 := hid_ (HSM.out (k + 1) (by omega))
      have HS0 := hid_ (HSM.out k (by omega))
      have HS2 := hid_ (smallN_of (x := l.orb.length) (by omega))
      clear hzc hl hu hr hn c0 c2
      go_wp2_with (first | (go_at_call 13; refine HOF2.out.mono ?_; rintro e w5 ⟨⟨u5, rfl, hu5⟩, hx5⟩; obtain ⟨_, _, _, _, h5⟩ := id hu5; obtain ⟨ya, yc, rfl, _, _, _⟩ := h5.open; have HMU := hid_ (rMul2 (HN.out.ex hx5) hu5 HS0.out HS2.out); have HX5 := hid_ hx5; clear h5 hu5 hx5) | (go_at_call 41; refine HMU.out.mono ?_; rintro e w6 ⟨⟨u6, rfl, hu6⟩, hx6⟩; have HU6 := hid_ hu6; have HX6 := hid_ hx6; clear hu6 hx6))
      have HEF := hid_ (hex.out.trans (HX5.out.trans HX6.out))
      have HU7 := hid_ (show NSl w6 u6 (sizL (L.take (k + 1))) from by
        rw [HST.out]; exact HU6.out)
      clear e1
      go_roundw
      case rel => exact ⟨k + 1, by omega, by go_num, HU7, HEF⟩
      case measure => simp [intOf]; omega
    · obtain rfl : k = L.length := by omega
      have HN := hid_ (show NSl wr (.slice pa pn pc) (sizL L) from by have := hn.out; rwa [List.take_length] at this)
      go_wp2_with fail
      go_ret
      exact ⟨⟨_, rfl, HN.out⟩, HE0.out.trans (HX3.out.trans hex.out)⟩
end Go.Proofs.YtgfdhclpffakfaaGreat
