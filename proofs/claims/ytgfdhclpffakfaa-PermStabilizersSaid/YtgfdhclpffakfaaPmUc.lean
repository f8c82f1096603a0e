/- The walk of PermMembers. -/
import Derived.Test.YtgfdhclpffakfaaPmUb
import Derived.Test.YtgfdhclpffakfaaPmOpenB
namespace Go.Proofs.Ytgfdhclpffakfaa
set_option linter.unusedVariables false
set_option linter.unusedSimpArgs false
open Go.RowKit

theorem BSl.open {w : World} {v : Value} {l : List Int} (h : BSl w v l) : ∃ a cap, v = .slice a l.length cap ∧ l.length ≤ cap ∧ cap ≤ maxLen ∧ (0 < l.length → ∃ b o, a = some ⟨b, o, none⟩ ∧ ∀ (i : Nat) (x : Int), l[i]? = some x → w.cell? ⟨b, o + i, none⟩ = some (.int .u8 x)) ∧ ∀ x ∈ l, 0 ≤ x ∧ x ≤ 255 := h
theorem vld_gchk {n : Nat} {rows : List (List Int)} (h1 : 1 ≤ n) (h2 : n ≤ 64) (h : VldP n rows) : gchk n rows = 0 := by
  unfold gchk
  rw [if_neg (by omega), allS_miss fun j s hs => (h s (List.mem_of_getElem? hs)).1, if_neg]
  rintro ⟨r, hr, hn⟩
  exact hn (h r hr).2
theorem vld_open {n : Nat} {rows : List (List Int)} (h1 : 1 ≤ n) (h2 : n ≤ 64) (h : VldP n rows) : ∃ S : List (Nat → Nat), rows = S.map (li n) ∧ ∀ s ∈ S, IsP n s := by
  obtain ⟨N, e, _, _, S, h3, h4⟩ := gchk_ok (vld_gchk h1 h2 h)
  have : N = n := by omega
  subst this
  exact ⟨S, h3, h4⟩
theorem bldS_li {n : Nat} {S : List (Nat → Nat)} (h1 : 1 ≤ n) (h2 : n ≤ 64) (hS : ∀ s ∈ S, IsP n s) : bldS n (S.map (li n)) = (⟨n, chnK n S n⟩, 0) := by
  unfold bldS
  rw [gchk_li h1 h2 hS, if_neg (by decide), map_fnL hS]
  rfl
theorem Build_li (w : World) (n : Nat) (S : List (Nat → Nat)) (v : Value) (hv : MSl w v (S.map (li n))) (h1 : 1 ≤ n) (h2 : n ≤ 64) (hS : ∀ s ∈ S, IsP n s) (hl : S.length ≤ 1000) :
    Calls Try.prog 30 #[.int .i64 n, v] w fun r w' => ∃ a c, r = .returned (.tuple #[.agg #[.int .i64 n, .slice a (chnK n S n).length c], .int .i64 0]) ∧ LSl w' (.slice a (chnK n S n).length c) (chnK n S n) ∧ Ex w w' :=
  (Build_any w n _ v hv (by rw [List.length_map]; exact hl)).mono fun r w' ⟨⟨u, h3, h4⟩, h5⟩ => by
    rw [bldS_li h1 h2 hS] at h3 h4
    obtain ⟨a, c, rfl, _⟩ := h4.open
    exact ⟨a, c, h3, h4, h5⟩
theorem gens_len (n : Nat) (S : List (Nat → Nat)) : (gensL (chnK n S n)).length ≤ n * n := by
  rw [chnK_pts, gensL_lev, List.length_map]
  unfold repsOf
  have key : ∀ bs : List Nat, (bs.flatMap fun b => (orbM S b n).map (lstP n S b)).length ≤ bs.length * n := by
    intro bs
    induction bs with
    | nil => simp
    | cons b bs ih =>
      rw [List.flatMap_cons, List.length_append, List.length_map, List.length_cons, Nat.add_mul, Nat.one_mul]
      have := orbM_len S b n
      omega
  refine Nat.le_trans (key _) (Nat.mul_le_mul_right n ?_)
  unfold ptsK
  have := List.length_filter_le (fun b => decide (1 < (orbM S b n).length)) (List.range n)
  rw [List.length_range] at this
  exact this
theorem chk_chn0 {n : Nat} {S : List (Nat → Nat)} (h1 : 1 ≤ n) (h2 : n ≤ 64) (hS : ∀ s ∈ S, IsP n s) : chkS n (chnK n S n) = 0 := by
  rw [chnK_pts]; exact chk_chn h1 h2 hS (suf_pts n S)
theorem has_gn {n : Nat} {S : List (Nat → Nat)} {f : Nat → Nat} (h1 : 1 ≤ n) (h2 : n ≤ 64) (hS : ∀ s ∈ S, IsP n s) (hf : Gn S f) : hasB n (chnK n S n) (li n f) = true ∧ sftE n (chnK n S n) (li n f) = 0 := by
  have hP := hf.isP hS
  have h0 : sftE n (chnK n S n) (li n f) = 0 := by
    unfold sftE
    rw [chk_chn0 h1 h2 hS, if_neg (by decide), pchk_li h1 h2 hP, if_neg (by decide), li_len, if_neg (by simp)]
  exact ⟨(hasB_iff hS hP rfl h0).2 hf, h0⟩
theorem Has_li (w : World) (n : Nat) (S : List (Nat → Nat)) (f : Nat → Nat) (v u : Value) (hv : LSl w v (chnK n S n)) (hu : ISl w u (li n f)) (h1 : 1 ≤ n) (h2 : n ≤ 30) (hS : ∀ s ∈ S, IsP n s) (hf : Gn S f) :
    Calls Try.prog 40 #[.agg #[.int .i64 n, v], u] w fun r w' => r = .returned (.tuple #[.bool true, .int .i64 0]) ∧ Ex w w' :=
  (Has_any w n _ v hv (Nat.le_trans (gens_len n S) (Nat.le_trans (Nat.mul_le_mul h2 h2) (by omega))) _ u hu).mono fun r w' ⟨h3, h4⟩ => by
    obtain ⟨h5, h6⟩ := has_gn h1 (by omega) hS hf
    rw [h5, h6] at h3
    exact ⟨h3, h4⟩
/-- Choosing generators one after the other. -/
theorem gn_pick {n : Nat} {S : List (Nat → Nat)} {g s : Nat → Nat} {i : Nat} (hg : Gn S g) (hs : S[i]? = some s) : Gn S (thenP g s) := hg.step (List.mem_of_getElem? hs)

set_option maxRecDepth 100000 in
set_option maxHeartbeats 8000000 in
theorem PermMembers_any (w : World) (b : Int) (hb0 : 0 ≤ b) (hb1 : b ≤ 255) (rows : List (List Int)) (picks : List Int) (rv kv : Value) (hr : MSl w rv rows) (hk : BSl w kv picks) :
    Calls Try.prog 9 #[.int .u8 b, rv, kv] w fun r w' => r = .returned (.bool true) ∧ Ex w w' := by
  obtain ⟨ra, rc, rfl, _, _, _⟩ := hr.open
  obtain ⟨ka, kc, rfl, _, k2, k3, k4⟩ := hk.open
  unfold maxLen at k2
  have HR := hid_ hr
  have HK := hid_ hk
  have K3 := hid_ k3
  have K4 := hid_ k4
  obtain ⟨B, rfl⟩ : ∃ B : Nat, b = B := ⟨b.toNat, by omega⟩
  have hw : IntKind.i64.wrap (B : Int) = (B : Int) := IntWalk.i64_in _ (by omega)
  obtain ⟨R, hR⟩ : ∃ R, B % 10 = R := ⟨_, rfl⟩
  have ht : (B : Int).tmod 10 = (R : Int) := by rw [Int.tmod_eq_emod_of_nonneg (Int.natCast_nonneg B), ← hR]; rfl
  have hR9 : R < 10 := by omega
  clear hr hk k3 k4 hb0 hb1 hR
  by_cases hok : 1 ≤ rows.length ∧ rows.length ≤ 5 ∧ picks.length ≤ 20
  · have g1 : ((rows.length : Int) == 0) = false := by rw [beq_eq_false_iff_ne]; omega
    have g2 : ¬ (5 : Int) < (rows.length : Int) := by omega
    have g3 : ¬ (20 : Int) < (picks.length : Int) := by omega
    have g2b : decide ((5 : Int) < (rows.length : Int)) = false := decide_eq_false g2
    have g3b : decide ((20 : Int) < (picks.length : Int)) = false := decide_eq_false g3
    have HOK := hid_ hok
    clear hok
    go_enter Try.func9, Try.ntmps9
    go_wp2_with fail
    obtain ⟨D, hD⟩ : ∃ D : Nat, (1 : Int) + (R : Int) = (D : Int) := ⟨R + 1, by omega⟩
    simp only [hD]
    have hD1 : 1 ≤ D := by omega
    have hD2 : D ≤ 10 := by omega
    clear hD hR9 hw ht
    refine (awake_any w).mono ?_
    rintro e w1 ⟨rfl, hx⟩
    have EX := hid_ hx
    have HR := hid_ (HR.out.ex hx)
    clear hx
    go_wp2_with fail
    refine (valid_any _ D rows _ HR.out).mono ?_
    rintro e w2 ⟨⟨b, rfl, hb⟩, hx⟩
    have EX := hid_ (EX.out.trans hx)
    have HR := hid_ (HR.out.ex hx)
    clear hx
    cases b with
    | false =>
      clear hb
      go_wp2_with fail
      refine (awake_any w2).mono ?_
      rintro e w3 ⟨rfl, hx⟩
      have EX := hid_ (EX.out.trans hx)
      clear hx
      go_wp2_with fail
      go_ret
      exact ⟨rfl, EX.out⟩
    | true =>
    obtain ⟨S, hS, hSP⟩ := vld_open hD1 (by omega) (hb.1 rfl)
    have hSl : S.length = rows.length := by rw [hS, List.length_map]
    have HSP := hid_ hSP
    have HSR := hid_ hS
    have hsl5 : S.length ≤ 5 := by have := HOK.out; omega
    have hsl1 : 1 ≤ S.length := by have := HOK.out; omega
    rw [← hSl] at g1 g2 g2b ⊢
    have hRR := HR.out
    rw [hS, List.length_map] at hRR
    have HR := hid_ hRR
    clear hb hS hSP hRR HOK hSl
    go_wp2_with fail
    refine (Build_li w2 D S _ HR.out hD1 (by omega) HSP.out (by omega)).mono ?_
    rintro e w3 ⟨ca, cc, rfl, hc, hx⟩
    obtain ⟨L, hL⟩ : ∃ L, chnK D S D = L := ⟨_, rfl⟩
    rw [hL] at hc ⊢
    have HL := hid_ hL
    obtain ⟨c0, c1, ec⟩ := boxCh_facts w3 D (.slice ca L.length cc)
    have HC := hid_ (hc.ex ec)
    have EX := hid_ (EX.out.trans (hx.trans ec))
    have HR := hid_ (HR.out.ex (hx.trans ec))
    clear hx ec hc hL
    go_wp2_with fail
    obtain ⟨Q, hQ⟩ : ∃ Q, w3.heap.size = Q := ⟨_, rfl⟩
    rw [hQ] at c0 c1
    try simp only [hQ]
    generalize w3.alloc (.cells #[.int .i64 D, .slice ca L.length cc] 46) = w4 at *
    clear hQ
    refine (rUnit_any w4 D (by omega)).mono ?_
    rintro e w5 ⟨ug, rfl, ho, hx⟩
    have HU := hid_ ho.li
    have C0 := hid_ (hx.cell c0)
    have C1 := hid_ (hx.cell c1)
    have HC := hid_ (HC.out.ex hx)
    have HR := hid_ (HR.out.ex hx)
    have EX := hid_ (EX.out.trans hx)
    clear hx ho c0 c1
    go_wp2_with fail
    go_loopw [10, 56] (fun p' k' wr => ∃ (k : Nat) (g : Nat → Nat), k ≤ picks.length ∧ k' = .int .i64 k ∧ Hid (Gn S g) ∧ Hid (ISl wr p' (li D g)) ∧ Hid (Ex w5 wr)) (fun _ k' _ => picks.length - (intOf k').toNat)
    case atStart => exact ⟨0, idP, by omega, rfl, hid_ Gn.one, HU, hid_ (Ex.refl _)⟩
    case round =>
      clear HU
      obtain ⟨k, g, hk, rfl, hg, hgl, hex⟩ := hrel
      obtain ⟨oa, oc, rfl, _, _, _⟩ := isl_li hgl.out
      by_cases hkl : k < picks.length
      · obtain ⟨x, hx⟩ : ∃ x, picks[k]? = some x := ⟨_, List.getElem?_eq_getElem hkl⟩
        obtain ⟨kb, ko, rfl, hkc⟩ := K3.out (by omega)
        have hxr := K4.out x (List.mem_of_getElem? hx)
        have d1 := (EX.out.trans hex.out).cell (hkc k x hx)
        obtain ⟨X, rfl⟩ : ∃ X : Nat, x = X := ⟨x.toNat, by omega⟩
        obtain ⟨i, hi⟩ : ∃ i, X % S.length = i := ⟨_, rfl⟩
        have hil : i < S.length := by rw [← hi]; exact Nat.mod_lt _ (by omega)
        obtain ⟨s, hs⟩ : ∃ s, S[i]? = some s := ⟨_, List.getElem?_eq_getElem hil⟩
        obtain ⟨_, _, er, _, _, h3⟩ := (HR.out.ex hex.out).open
        injection er with er1 er2 er3
        subst er1 er3
        clear er2
        obtain ⟨yb, yo, rfl, hyc⟩ := h3 (by rw [List.length_map]; omega)
        obtain ⟨u, d2, hu⟩ := hyc i (li D s) (by rw [List.getElem?_map, hs]; rfl)
        obtain ⟨ua, uc, rfl, _, _, _⟩ := isl_li hu
        have e1 : IntKind.i64.wrap (X : Int) = (X : Int) := IntWalk.i64_in _ (by omega)
        have e2 : (X : Int).tmod (S.length : Int) = (i : Int) := by rw [Int.tmod_eq_emod_of_nonneg (by omega), ← hi]; rfl
        have e3 : ¬ (S.length : Int) = 0 := by omega
        have e4 : ¬ S.length = 0 := by omega
        have i1 : (0 : Int) ≤ (k : Int) := by omega
        have i2 : (k : Int) < (picks.length : Int) := by omega
        have i3 : (0 : Int) ≤ (i : Int) := by omega
        have i4 : (i : Int) < (S.length : Int) := by omega
        have HTH := hid_ (rThen_any wr D g s _ _ hgl.out hu (by omega) (hg.out.isP HSP.out).lt)
        have HG2 := hid_ (gn_pick (n := D) hg.out hs)
        clear hkc hx hi hs h3 hyc hu hxr
        go_wp2_with fail
        refine HTH.out.mono ?_
        rintro e w6 ⟨tg, rfl, ho, hx⟩
        have HP2 := hid_ ho.li
        have HX2 := hid_ (hex.out.trans hx)
        clear ho hx
        go_wp2_with fail
        clear e1 e2 e3 e4
        go_roundw
        case rel => exact ⟨k + 1, _, by omega, by go_num, HG2, HP2, HX2⟩
        case measure => simp [intOf]; omega
      · obtain rfl : k = picks.length := by omega
        have c0 := hex.out.cell C0.out
        have c1 := hex.out.cell C1.out
        have HCL := hid_ (show LSl wr (.slice ca L.length cc) (chnK D S D) from by rw [HL.out]; exact HC.out.ex hex.out)
        have HHS := hid_ (Has_li wr D S g _ _ HCL.out hgl.out hD1 (by omega) HSP.out hg.out)
        have HGI := hid_ (hg.out.inv HSP.out)
        have HGP := hid_ (hg.out.isP HSP.out)
        go_wp2_with fail
        refine HHS.out.mono ?_
        rintro e w6 ⟨rfl, hx⟩
        have c0 := hx.cell c0
        have c1 := hx.cell c1
        have C06 := hid_ c0
        have C16 := hid_ c1
        have HBK := hid_ (fun w' (h : Ex w6 w') => rBack_any w' D g _ ((hgl.out.ex hx).ex h) (by omega) HGP.out)
        have HHB := hid_ (fun w' (h : Ex w6 w') u (hu : ISl w' u (li D (invP D g))) => Has_li w' D S (invP D g) _ u ((HCL.out.ex hx).ex h) hu hD1 (by omega) HSP.out HGI.out)
        have EX := hid_ (EX.out.trans (hex.out.trans hx))
        clear hx
        go_upto_region 14 with fail
        go_cut [14, 15] from 77 to 83 (fun s14 s15 wx => s14 = .bool true ∧ s15 = .int .i64 0 ∧ Hid (Ex w6 wx))
        case first =>
          go_region_with ((first | (go_at_call 44; (with_reducible refine (HBK.out _ (Ex.refl w6).drew).mono ?_); rintro e wx1 ⟨g5, rfl, ho5, hy1⟩; have HO5 := hid_ ho5.li; have G1 := hid_ ((Ex.refl w6).drew.trans hy1); have c0 := G1.out.cell C06.out; have c1 := G1.out.cell C16.out; clear ho5 hy1) | (go_at_call 40; refine (HHB.out _ G1.out _ HO5.out).mono ?_; rintro e wx2 ⟨rfl, hy2⟩; have G2 := hid_ (G1.out.trans hy2); clear hy2)))
          all_goals go_wp2_with fail
          all_goals go_meet
          all_goals exact ⟨rfl, rfl, G2⟩
        case rest =>
          obtain ⟨rfl, rfl, hxc⟩ := hcut
          go_wp2_with fail
          go_ret
          exact ⟨rfl, EX.out.trans hxc.out⟩
  · have key : ∀ h : ((rows.length : Int) == 0) = true ∨ (((rows.length : Int) == 0) = false ∧ (5 : Int) < (rows.length : Int)) ∨ (((rows.length : Int) == 0) = false ∧ (¬ (5 : Int) < (rows.length : Int)) ∧ (20 : Int) < (picks.length : Int)), Calls Try.prog 9 #[.int .u8 B, .slice ra rows.length rc, .slice ka picks.length kc] w fun r w' => r = .returned (.bool true) ∧ Ex w w' := by
      intro h
      rcases h with h | ⟨h, h'⟩ | ⟨h, h', h''⟩
      all_goals
        go_enter Try.func9, Try.ntmps9
        go_wp2_with fail
        refine (awake_any w).mono ?_
        rintro e w1 ⟨rfl, hx⟩
        have EX := hid_ hx
        clear hx
        go_wp2_with fail
        refine (awake_any w1).mono ?_
        rintro e w2 ⟨rfl, hx⟩
        have EX := hid_ (EX.out.trans hx)
        clear hx
        go_wp2_with fail
        go_ret
        exact ⟨rfl, EX.out⟩
    refine key ?_
    simp only [beq_iff_eq, beq_eq_false_iff_ne, ne_eq]
    omega
end Go.Proofs.Ytgfdhclpffakfaa
