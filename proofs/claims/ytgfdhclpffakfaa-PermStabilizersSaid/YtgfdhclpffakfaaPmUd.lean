/- The reference's Gens; the walk of PermCanonical. -/
import Derived.Test.YtgfdhclpffakfaaPmUc
namespace Go.Proofs.Ytgfdhclpffakfaa
set_option linter.unusedVariables false
set_option linter.unusedSimpArgs false
open Go.RowKit

theorem us_one {w : World} {us : List Value} {R : List (List Int)} (h : Sl w (.slice none 0 0) 0 1 [] → True) (hl : us.length = R.length) (hu : ∀ (i : Nat) (r : List Int) (u : Value), R[i]? = some r → us[i]? = some u → ISl w u r) : ∀ u ∈ us, u.oneCell' = true := fun u hm => by
  obtain ⟨i, hi, e⟩ := List.getElem_of_mem hm
  obtain ⟨_, _, rfl, _⟩ := (hu i _ u (List.getElem?_eq_getElem (by omega)) (by rw [List.getElem?_eq_getElem hi, e])).open
  rfl

set_option maxRecDepth 100000 in
set_option maxHeartbeats 4000000 in
theorem rGens_any (w : World) (d : Int) (L : List Lv) (lv : Value) (hL : LSl w lv L) (hg : (gensL L).length ≤ 1000) :
    Calls Try.prog 45 #[.agg #[.int .i64 d, lv]] w fun r w' => ∃ a c, r = .returned (.slice a (gensL L).length c) ∧ MSl w' (.slice a (gensL L).length c) (gensL L) ∧ Ex w w' := by
  obtain ⟨d0, d1, e0⟩ := boxCh_facts w d lv
  obtain ⟨za, zc, rfl, z1, z2, z3⟩ := (hL.ex e0).open3
  unfold maxLen at z2
  have Z3 := hid_ z3
  clear z3 hL
  go_enter Try.func45, Try.ntmps45
  go_wp2_with fail
  obtain ⟨q, hq⟩ : ∃ q, w.heap.size = q := ⟨_, rfl⟩
  rw [hq] at d0 d1
  try simp only [hq]
  clear hq
  generalize w.alloc (.cells #[.int .i64 d, .slice za L.length zc] 46) = w1 at *
  have HE0 := hid_ e0
  have D1 := hid_ d1
  clear e0 d0 d1
  go_loopw [3, 4] (fun gv' k' wr => ∃ (k : Nat) (vals : List Value), k ≤ L.length ∧ k' = .int .i64 k ∧ Hid (GnsW w1 wr gv' (gensL (L.take k)) vals)) (fun _ k' _ => L.length - (intOf k').toNat)
  case atStart => exact ⟨0, [], by omega, rfl, hid_ (GnsW.nil w1)⟩
  case round =>
    obtain ⟨k, vals, hk, rfl, hgn⟩ := hrel
    have hml := gensL_le L k
    obtain ⟨ga, gc, rfl⟩ := own_shape hgn.out.own
    have d1 := hgn.out.ex.cell D1.out
    by_cases hkl : k < L.length
    · obtain ⟨l, hl⟩ : ∃ l, L[k]? = some l := ⟨_, List.getElem?_eq_getElem hkl⟩
      obtain ⟨zb, zo, rfl, hzc⟩ := Z3.out (by omega)
      obtain ⟨u, r, c0, c1, c2, hu, hr⟩ := hzc k l hl
      have c2 := hgn.out.ex.cell c2
      obtain ⟨ra, rc, rfl, _, _, _⟩ := hr.open
      obtain ⟨us, HUS, hul, hus⟩ := hr.vals
      have i1 : (0 : Int) ≤ (k : Int) := by omega
      have i2 : (k : Int) < (L.length : Int) := by omega
      have HUR := hid_ hus
      have HON := hid_ (us_one (fun _ => trivial) hul hus)
      have hml2 := gensL_le L (k + 1)
      have HGT := hid_ (gensL_take hl)
      rw [HGT.out, List.length_append] at hml2
      have HB := hid_ hgn.out.ex.size
      have HOW := hid_ hgn.out.own
      have HXS := hid_ (HUS.ex hgn.out.ex)
      clear hzc hl hu hr HUS hus c0 c1
      go_wp2_with (at_builtin; refine wpList_append_sl _ rfl _ _ 28 rfl w1.heap.size 22 (.slice none 0 0) 1 24 Try.underlying28 infoIntsL rfl (by decide) (.slice ga (gensL (L.take k)).length gc) (gensL (L.take k)).length vals rfl HOW.out (.slice ra l.reps.length rc) l.reps.length us rfl HXS.out HON.out (by unfold maxLen; omega) (by omega) HB.out ?_; intro v' w' hown hg hb; have HG1 := hid_ (hgn.out.app (R := l.reps) (us := us) (fun i r u a b => HUR.out i r u a b) hown (Ex.grown hgn.out.ex HOW.out (Nat.le_refl _) hg)); obtain ⟨oa', oc', rfl⟩ := own_shape hown; clear hown hg hb)
      go_roundw
      case rel => exact ⟨k + 1, _, by omega, by go_num, by rw [HGT.out]; exact HG1⟩
      case measure => simp [intOf]; omega
    · obtain rfl : k = L.length := by omega
      have htk : gensL (L.take L.length) = gensL L := by rw [List.take_length]
      rw [htk] at hgn ⊢
      go_wp2_with fail
      go_ret
      exact ⟨ga, gc, rfl, hgn.out.msl, HE0.out.trans hgn.out.ex⟩
theorem gn_more {n : Nat} {S : List (Nat → Nat)} {g : Nat → Nat} (hS : ∀ s ∈ S, IsP n s) (hg : Gn S g) (f : Nat → Nat) : Gn (g :: S.reverse) f ↔ Gn S f :=
  ⟨fun h => h.mono fun s hs => by
    rcases List.mem_cons.1 hs with e | e
    · rw [e]; exact hg
    · exact Gn.of (List.mem_reverse.1 e), fun h => h.mono fun s hs => Gn.of (List.mem_cons_of_mem _ (List.mem_reverse.2 hs))⟩

set_option maxRecDepth 100000 in
set_option maxHeartbeats 8000000 in
theorem PermCanonical_any (w : World) (b : Int) (hb0 : 0 ≤ b) (hb1 : b ≤ 255) (rows : List (List Int)) (picks : List Int) (rv kv : Value) (hr : MSl w rv rows) (hk : BSl w kv picks) :
    Calls Try.prog 10 #[.int .u8 b, rv, kv] w fun r w' => r = .returned (.bool true) ∧ Ex w w' := by
  obtain ⟨ra, rc, rfl, _, _, _⟩ := hr.open
  obtain ⟨ka, kc, rfl, _, k2, k3, k4⟩ := hk.open
  unfold maxLen at k2
  have HR := hid_ hr
  have HK := hid_ hk
  have K3 := hid_ k3
  have K4 := hid_ k4
  obtain ⟨B, rfl⟩ : ∃ B : Nat, b = B := ⟨b.toNat, by omega⟩
  have hw : IntKind.i64.wrap (B : Int) = (B : Int) := IntWalk.i64_in _ (by omega)
  obtain ⟨R, hR⟩ : ∃ R, B % 8 = R := ⟨_, rfl⟩
  have ht : (B : Int).tmod 8 = (R : Int) := by rw [Int.tmod_eq_emod_of_nonneg (Int.natCast_nonneg B), ← hR]; rfl
  have hR9 : R < 8 := by omega
  clear hr hk k3 k4 hb0 hb1 hR
  by_cases hok : 1 ≤ rows.length ∧ rows.length ≤ 4 ∧ picks.length ≤ 20
  · have g1 : ((rows.length : Int) == 0) = false := by rw [beq_eq_false_iff_ne]; omega
    have g2 : ¬ (4 : Int) < (rows.length : Int) := by omega
    have g3 : ¬ (20 : Int) < (picks.length : Int) := by omega
    have g2b : decide ((4 : Int) < (rows.length : Int)) = false := decide_eq_false g2
    have g3b : decide ((20 : Int) < (picks.length : Int)) = false := decide_eq_false g3
    have HOK := hid_ hok
    clear hok
    go_enter Try.func10, Try.ntmps10
    go_wp2_with fail
    obtain ⟨D, hD⟩ : ∃ D : Nat, (1 : Int) + (R : Int) = (D : Int) := ⟨R + 1, by omega⟩
    simp only [hD]
    have hD1 : 1 ≤ D := by omega
    have hD2 : D ≤ 8 := by omega
    clear hD hR9 hw ht
    refine (awake_any w).mono ?_
    rintro e w1 ⟨rfl, hx⟩
    have EX := hid_ hx
    have HR := hid_ (HR.out.ex hx)
    clear hx
    go_wp2_with fail
    refine (valid_any _ D rows _ HR.out).mono ?_
    rintro e w2 ⟨⟨b, rfl, hb⟩, hx⟩
    have EX := hid_ (EX.out.trans hx)
    have HR := hid_ (HR.out.ex hx)
    clear hx
    cases b with
    | false =>
      clear hb
      go_wp2_with fail
      refine (awake_any w2).mono ?_
      rintro e w3 ⟨rfl, hx⟩
      have EX := hid_ (EX.out.trans hx)
      clear hx
      go_wp2_with fail
      go_ret
      exact ⟨rfl, EX.out⟩
    | true =>
    obtain ⟨S, hS, hSP⟩ := vld_open hD1 (by omega) (hb.1 rfl)
    have hSl : S.length = rows.length := by rw [hS, List.length_map]
    have HSP := hid_ hSP
    have HSR := hid_ hS
    have hsl5 : S.length ≤ 4 := by have := HOK.out; omega
    have hsl1 : 1 ≤ S.length := by have := HOK.out; omega
    rw [← hSl] at g1 g2 g2b ⊢
    have hRR := HR.out
    rw [hS, List.length_map] at hRR
    have HR := hid_ hRR
    clear hb hS hSP hRR HOK hSl
    go_wp2_with fail
    refine (Build_li w2 D S _ HR.out hD1 (by omega) HSP.out (by omega)).mono ?_
    rintro e w3 ⟨ca, cc, rfl, hc, hx⟩
    obtain ⟨L, hL⟩ : ∃ L, chnK D S D = L := ⟨_, rfl⟩
    rw [hL] at hc ⊢
    have HL := hid_ hL
    obtain ⟨c0, c1, ec⟩ := boxCh_facts w3 D (.slice ca L.length cc)
    have HC := hid_ (hc.ex ec)
    have EX := hid_ (EX.out.trans (hx.trans ec))
    have HR := hid_ (HR.out.ex (hx.trans ec))
    clear hx ec hc hL
    go_wp2_with fail
    obtain ⟨Q, hQ⟩ : ∃ Q, w3.heap.size = Q := ⟨_, rfl⟩
    rw [hQ] at c0 c1
    try simp only [hQ]
    generalize w3.alloc (.cells #[.int .i64 D, .slice ca L.length cc] 46) = w4 at *
    clear hQ
    refine (CheckChain_any w4 D L _ HC.out (by rw [← HL.out]; exact Nat.le_trans (gens_len D S) (Nat.le_trans (Nat.mul_le_mul hD2 hD2) (by omega)))).mono ?_
    rintro e w4b ⟨rfl, hx⟩
    rw [show chkS D L = 0 from by rw [← HL.out]; exact chk_chn0 hD1 (by omega) HSP.out]
    have c0 := hx.cell c0
    have c1 := hx.cell c1
    have HC := hid_ (HC.out.ex hx)
    have HR := hid_ (HR.out.ex hx)
    have EX := hid_ (EX.out.trans hx)
    clear hx
    go_wp2_with fail
    refine (rUnit_any w4b D (by omega)).mono ?_
    rintro e w5 ⟨ug, rfl, ho, hx⟩
    have HU := hid_ ho.li
    have C0 := hid_ (hx.cell c0)
    have C1 := hid_ (hx.cell c1)
    have HC := hid_ (HC.out.ex hx)
    have HR := hid_ (HR.out.ex hx)
    have EX := hid_ (EX.out.trans hx)
    clear hx ho c0 c1
    go_wp2_with fail
    go_loopw [10, 63] (fun p' k' wr => ∃ (k : Nat) (g : Nat → Nat), k ≤ picks.length ∧ k' = .int .i64 k ∧ Hid (Gn S g) ∧ Hid (ISl wr p' (li D g)) ∧ Hid (Ex w5 wr)) (fun _ k' _ => picks.length - (intOf k').toNat)
    case atStart => exact ⟨0, idP, by omega, rfl, hid_ Gn.one, HU, hid_ (Ex.refl _)⟩
    case round =>
      clear HU
      obtain ⟨k, g, hk, rfl, hg, hgl, hex⟩ := hrel
      obtain ⟨oa, oc, rfl, _, _, _⟩ := isl_li hgl.out
      by_cases hkl : k < picks.length
      · obtain ⟨x, hx⟩ : ∃ x, picks[k]? = some x := ⟨_, List.getElem?_eq_getElem hkl⟩
        obtain ⟨kb, ko, rfl, hkc⟩ := K3.out (by omega)
        have hxr := K4.out x (List.mem_of_getElem? hx)
        have d1 := (EX.out.trans hex.out).cell (hkc k x hx)
        obtain ⟨X, rfl⟩ : ∃ X : Nat, x = X := ⟨x.toNat, by omega⟩
        obtain ⟨i, hi⟩ : ∃ i, X % S.length = i := ⟨_, rfl⟩
        have hil : i < S.length := by rw [← hi]; exact Nat.mod_lt _ (by omega)
        obtain ⟨s, hs⟩ : ∃ s, S[i]? = some s := ⟨_, List.getElem?_eq_getElem hil⟩
        obtain ⟨_, _, er, _, _, h3⟩ := (HR.out.ex hex.out).open
        injection er with er1 er2 er3
        subst er1 er3
        clear er2
        obtain ⟨yb, yo, rfl, hyc⟩ := h3 (by rw [List.length_map]; omega)
        obtain ⟨u, d2, hu⟩ := hyc i (li D s) (by rw [List.getElem?_map, hs]; rfl)
        obtain ⟨ua, uc, rfl, _, _, _⟩ := isl_li hu
        have e1 : IntKind.i64.wrap (X : Int) = (X : Int) := IntWalk.i64_in _ (by omega)
        have e2 : (X : Int).tmod (S.length : Int) = (i : Int) := by rw [Int.tmod_eq_emod_of_nonneg (by omega), ← hi]; rfl
        have e3 : ¬ (S.length : Int) = 0 := by omega
        have e4 : ¬ S.length = 0 := by omega
        have i1 : (0 : Int) ≤ (k : Int) := by omega
        have i2 : (k : Int) < (picks.length : Int) := by omega
        have i3 : (0 : Int) ≤ (i : Int) := by omega
        have i4 : (i : Int) < (S.length : Int) := by omega
        have HTH := hid_ (rThen_any wr D g s _ _ hgl.out hu (by omega) (hg.out.isP HSP.out).lt)
        have HG2 := hid_ (gn_pick (n := D) hg.out hs)
        clear hkc hx hi hs h3 hyc hu hxr
        go_wp2_with fail
        refine HTH.out.mono ?_
        rintro e w6 ⟨tg, rfl, ho, hx⟩
        have HP2 := hid_ ho.li
        have HX2 := hid_ (hex.out.trans hx)
        clear ho hx
        go_wp2_with fail
        clear e1 e2 e3 e4
        go_roundw
        case rel => exact ⟨k + 1, _, by omega, by go_num, HG2, HP2, HX2⟩
        case measure => simp [intOf]; omega
      · obtain rfl : k = picks.length := by omega
        have c0 := hex.out.cell C0.out
        have c1 := hex.out.cell C1.out
        have HRW := hid_ (HR.out.ex hex.out)
        have HCW := hid_ (HC.out.ex hex.out)
        have EX := hid_ (EX.out.trans hex.out)
        have HGP := hid_ (hg.out.isP HSP.out)
        have HG0 := hid_ (show GnsW wr (wr.alloc (.cells #[.slice oa D oc] 22)) (.slice (some ⟨wr.heap.size, 0, none⟩) 1 1) ([g].map (li D)) [.slice oa D oc] from ⟨own_lit1 wr _ _, rows1 hgl.out, Ex.al _ _⟩)
        have HGL := hid_ hgl.out
        clear HR HC C0 C1 hex hgl
        go_wp2_with fail
        obtain ⟨w8, rfl⟩ : ∃ w8, w8 = wr := ⟨_, rfl⟩
        go_loopw [13, 14] (fun m' i' wr => ∃ (i : Nat) (vals : List Value), i ≤ S.length ∧ i' = .int .i64 ((i : Int) - 1) ∧ Hid (GnsW w8 wr m' ((g :: (S.drop i).reverse).map (li D)) vals)) (fun _ i' _ => ((intOf i') + 1).toNat)
        case atStart => exact ⟨S.length, _, Nat.le_refl _, rfl, by rw [List.drop_length]; exact HG0⟩
        case round =>
          clear HG0
          obtain ⟨i, vals, hi, rfl, hgn⟩ := hrel
          obtain ⟨ma, mc, rfl⟩ := own_shape hgn.out.own
          have c0 := hgn.out.ex.cell c0
          have c1 := hgn.out.ex.cell c1
          cases i with
          | zero =>
            have HM := hid_ (show MSl wr _ ((g :: S.reverse).map (li D)) from by have := hgn.out.msl; rwa [List.drop_zero] at this)
            have HML := hid_ (show ((g :: (S.drop 0).reverse).map (li D)).length = S.length + 1 from by simp)
            have hMM := HM.out
            rw [show ((g :: S.reverse).map (li D)).length = S.length + 1 from by simp] at hMM
            have HM := hid_ hMM
            clear hMM
            rw [HML.out]
            have HSM := hid_ (show ∀ s ∈ g :: S.reverse, IsP D s from fun s hs => by
              rcases List.mem_cons.1 hs with e | e
              · rw [e]; exact HGP.out
              · exact HSP.out s (List.mem_reverse.1 e))
            have HLM := hid_ (show chnK D (g :: S.reverse) D = L from by rw [← HL.out]; exact chnK_congr (gn_more HSP.out hg.out) D)
            have HCZ := hid_ (HCW.out.ex hgn.out.ex)
            have EX := hid_ (EX.out.trans hgn.out.ex)
            have HB2 := hid_ (Build_li wr D (g :: S.reverse) _ HM.out hD1 (by omega) HSM.out (by simp; omega))
            clear HRW HGL
            go_wp2_with fail
            refine HB2.out.mono ?_
            rintro e w9 ⟨ma2, mc2, rfl, hm, hx⟩
            rw [HLM.out] at hm ⊢
            obtain ⟨e0, e1, eb⟩ := boxCh_facts w9 D (.slice ma2 L.length mc2)
            have hx := hx.trans eb
            have c0 := hx.cell c0
            have c1 := hx.cell c1
            have HA := hid_ (hm.ex eb)
            have HCZ := hid_ (HCZ.out.ex hx)
            have EX := hid_ (EX.out.trans hx)
            clear hm hx eb
            go_wp2_with fail
            obtain ⟨Q2, hQ2⟩ : ∃ Q, w9.heap.size = Q := ⟨_, rfl⟩
            rw [hQ2] at e0 e1
            try simp only [hQ2]
            generalize w9.alloc (.cells #[.int .i64 D, .slice ma2 L.length mc2] 46) = w10 at *
            clear hQ2
            have hgl := gens_len D S
            rw [HL.out] at hgl
            have hDD := Nat.mul_le_mul hD2 hD2
            refine (rGens_any w10 D L _ HCZ.out (by omega)).mono ?_
            rintro e w11 ⟨ya, yc, rfl, hy, hx⟩
            have c0 := hx.cell c0
            have c1 := hx.cell c1
            have e0 := hx.cell e0
            have e1 := hx.cell e1
            have HA := hid_ (HA.out.ex hx)
            have HCZ := hid_ (HCZ.out.ex hx)
            have EX := hid_ (EX.out.trans hx)
            have hgr : gensL L = (repsOf D S (ptsK D S)).map (li D) := by rw [← HL.out, chnK_pts]; exact gensL_lev D S _
            have HRI := hid_ (repsOf_isP HSP.out (ptsK D S))
            have HCR := hid_ (show chnK D (repsOf D S (ptsK D S)) D = L from by rw [← HL.out, chn_tail HSP.out (suf_pts D S), chnK_pts])
            obtain ⟨T, hT⟩ : ∃ T, repsOf D S (ptsK D S) = T := ⟨_, rfl⟩
            rw [hT] at hgr HRI HCR
            have hTl : T.length = (gensL L).length := by rw [hgr, List.length_map]
            have HB3 := hid_ (Build_li w11 D T (.slice ya (gensL L).length yc) (by rw [← hgr]; exact hy) hD1 (by omega) HRI.out (by omega))
            clear hx hy hgr hT hTl hgl hDD
            go_wp2_with fail
            refine HB3.out.mono ?_
            rintro e w12 ⟨na, nc, rfl, hn, hx⟩
            rw [HCR.out] at hn ⊢
            obtain ⟨f0, f1, eb⟩ := boxCh_facts w12 D (.slice na L.length nc)
            have hx := hx.trans eb
            have c0 := hx.cell c0
            have c1 := hx.cell c1
            have e0 := hx.cell e0
            have e1 := hx.cell e1
            have HA := hid_ (HA.out.ex hx)
            have HCZ := hid_ (HCZ.out.ex hx)
            have HN := hid_ (hn.ex eb)
            have EX := hid_ (EX.out.trans hx)
            clear hn hx eb
            go_wp2_with fail
            obtain ⟨Q3, hQ3⟩ : ∃ Q, w12.heap.size = Q := ⟨_, rfl⟩
            rw [hQ3] at f0 f1
            try simp only [hQ3]
            generalize w12.alloc (.cells #[.int .i64 D, .slice na L.length nc] 46) = w13 at *
            clear hQ3
            have HCZ := hid_ (show LSl w13 (.slice ca L.length cc) L from by have := HCZ.out; exact this)
            refine (rSame2_any w13 D D L L _ _ HA.out HCZ.out).mono ?_
            rintro e w14 ⟨⟨b, rfl, hb⟩, hx⟩
            obtain rfl : b = true := hb.2 ⟨rfl, rfl⟩
            have c0 := hx.cell c0
            have c1 := hx.cell c1
            have f0 := hx.cell f0
            have f1 := hx.cell f1
            have HCZ := hid_ (HCZ.out.ex hx)
            have HN := hid_ (HN.out.ex hx)
            have EX := hid_ (EX.out.trans hx)
            clear hx hb
            go_wp2_with fail
            refine (rSame2_any w14 D D L L _ _ HN.out HCZ.out).mono ?_
            rintro e w15 ⟨⟨b, rfl, hb⟩, hx⟩
            obtain rfl : b = true := hb.2 ⟨rfl, rfl⟩
            have EX := hid_ (EX.out.trans hx)
            clear hx hb
            go_wp2_with fail
            go_ret
            exact ⟨rfl, EX.out⟩
          | succ k =>
            have hk1 : ((k + 1 : Nat) : Int) - 1 = (k : Int) := by omega
            rw [hk1]
            have i1 : (0 : Int) ≤ (k : Int) := by omega
            have i2 : (k : Int) < (S.length : Int) := by omega
            obtain ⟨s, hs⟩ : ∃ s, S[k]? = some s := ⟨_, List.getElem?_eq_getElem (by omega)⟩
            obtain ⟨_, _, er, _, _, h3⟩ := HRW.out.open
            injection er with er1 er2 er3
            subst er1 er3
            clear er2
            obtain ⟨xb, xo, rfl, hyc⟩ := h3 (by rw [List.length_map]; omega)
            obtain ⟨u, d2, hu⟩ := hyc k (li D s) (by rw [List.getElem?_map, hs]; rfl)
            have d2 := hgn.out.ex.cell d2
            obtain ⟨ua, uc, rfl, _, _, _⟩ := isl_li hu
            have HU := hid_ hu
            have HMS := hid_ (show (g :: (S.drop (k + 1)).reverse).map (li D) ++ [li D s] = (g :: (S.drop k).reverse).map (li D) from by
              have h1 := (List.getElem?_eq_some_iff.1 hs).1
              have h2 := (List.getElem?_eq_some_iff.1 hs).2
              rw [List.drop_eq_getElem_cons h1, h2, List.reverse_cons]
              simp)
            obtain ⟨M, hM⟩ : ∃ M, (g :: (S.drop (k + 1)).reverse).map (li D) = M := ⟨_, rfl⟩
            have hMl : M.length ≤ 5 := by rw [← hM]; simp; omega
            rw [hM] at hgn HMS ⊢
            have HOW := hid_ (ownsRow_ex hgn.out.own (Ex.al wr (.cells #[.slice ua D uc] 22)))
            have HB := hid_ (Nat.le_trans hgn.out.ex.size (Ex.al wr (.cells #[.slice ua D uc] 22)).size)
            have HXG := hid_ (hgn.out.ex.trans (Ex.al wr (.cells #[.slice ua D uc] 22)))
            clear hs h3 hyc hu hM
            go_wp2_with (at_builtin; refine wpList_append_sl _ rfl _ _ 28 rfl w8.heap.size 22 (.slice none 0 0) 1 24 Try.underlying28 infoIntsL rfl (by decide) (.slice ma M.length mc) M.length vals rfl HOW.out (.slice (some ⟨wr.heap.size, 0, none⟩) 1 1) 1 [.slice ua D uc] rfl (Sl.own (own_lit1 wr _ _)) (by simp [Value.oneCell']) (by unfold maxLen; omega) (by omega) HB.out ?_; intro v' w' hown hg' hb; have HG1 := hid_ (hgn.out.app (R := [li D s]) (us := [.slice ua D uc]) (rows1 HU.out) hown (Ex.grown HXG.out HOW.out (Nat.le_refl _) hg')); obtain ⟨oa', oc', rfl⟩ := own_shape hown; clear hown hg' hb)
            go_roundw
            case rel => exact ⟨k, _, by omega, by go_num, by rw [← HMS.out]; exact HG1⟩
            case measure => simp [intOf]
  · have key : ∀ h : ((rows.length : Int) == 0) = true ∨ (((rows.length : Int) == 0) = false ∧ (4 : Int) < (rows.length : Int)) ∨ (((rows.length : Int) == 0) = false ∧ (¬ (4 : Int) < (rows.length : Int)) ∧ (20 : Int) < (picks.length : Int)), Calls Try.prog 10 #[.int .u8 B, .slice ra rows.length rc, .slice ka picks.length kc] w fun r w' => r = .returned (.bool true) ∧ Ex w w' := by
      intro h
      rcases h with h | ⟨h, h'⟩ | ⟨h, h', h''⟩
      all_goals
        go_enter Try.func10, Try.ntmps10
        go_wp2_with fail
        refine (awake_any w).mono ?_
        rintro e w1 ⟨rfl, hx⟩
        have EX := hid_ hx
        clear hx
        go_wp2_with fail
        refine (awake_any w1).mono ?_
        rintro e w2 ⟨rfl, hx⟩
        have EX := hid_ (EX.out.trans hx)
        clear hx
        go_wp2_with fail
        go_ret
        exact ⟨rfl, EX.out⟩
    refine key ?_
    simp only [beq_iff_eq, beq_eq_false_iff_ne, ne_eq]
    omega
end Go.Proofs.Ytgfdhclpffakfaa
