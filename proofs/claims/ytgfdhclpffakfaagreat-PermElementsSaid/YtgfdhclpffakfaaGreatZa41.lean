/- Walk of the reference's Build and CheckChain. -/
import Derived.Test.YtgfdhclpffakfaaGreatZa11
import Derived.Test.YtgfdhclpffakfaaGreatZa23
import Derived.Test.YtgfdhclpffakfaaGreatZa37
import Derived.Test.YtgfdhclpffakfaaGreatZa40
namespace Go.Proofs.YtgfdhclpffakfaaGreat
set_option linter.unusedVariables false
set_option linter.unusedSimpArgs false
open Go.RowKit

set_option maxRecDepth 100000 in
set_option maxHeartbeats 4000000 in
theorem rBuild_any (w : World) (n : Int) (rows : List (List Int)) (v : Value) (hv : MSl w v rows) (hrl : rows.length ≤ 1000) (hn6 : n ≤ 6 ∨ 64 < n) :
    Calls Tryz.prog 37 #[.int .i64 n, v] w fun r w' => BldR n rows r w' ∧ Ex w w' := by
  have ea : Ex w (w.alloc (.cells #[.int .i64 0, .slice none 0 0] 24)) := (Ex.refl _).alloc _
  have q0 : (w.alloc (.cells #[.int .i64 0, .slice none 0 0] 24)).cell? ⟨w.heap.size, 0, none⟩ = some (.int .i64 0) := by simp
  have q1 : (w.alloc (.cells #[.int .i64 0, .slice none 0 0] 24)).cell? ⟨w.heap.size, 1, none⟩ = some (.slice none 0 0) := by simp
  have q2 : ∀ j, 2 ≤ j → (w.alloc (.cells #[.int .i64 0, .slice none 0 0] 24)).cell? ⟨w.heap.size, j, none⟩ = none := fun j hj => by
    obtain ⟨i, rfl⟩ : ∃ i, j = i + 2 := ⟨j - 2, by omega⟩
    simp
  have qf0 : (w.alloc (.cells #[.int .i64 0, .slice none 0 0] 24)).frozen? ⟨w.heap.size, 0, none⟩ = false := by simp
  have qf1 : (w.alloc (.cells #[.int .i64 0, .slice none 0 0] 24)).frozen? ⟨w.heap.size, 1, none⟩ = false := by simp
  have HV := hid_ hv
  have HG := hid_ (fun w1 (h : Ex w w1) => rgroup_any w1 n rows v (hv.ex h))
  obtain ⟨a, cap, rfl, _, s2, _⟩ := hv.open
  unfold maxLen at s2
  obtain ⟨e, he⟩ : ∃ e, gchk n rows = e := ⟨_, rfl⟩
  rw [he] at HG
  clear hv
  go_enter Tryz.func37, Tryz.ntmps37
  go_wp2_with fail
  obtain ⟨q, hq⟩ : ∃ q, w.heap.size = q := ⟨_, rfl⟩
  rw [hq] at q0 q1 qf0 qf1 q2
  try simp only [hq]
  have HQ := hid_ hq
  have HEA := hid_ ea
  clear hq
  generalize w.alloc (.cells #[.int .i64 0, .slice none 0 0] 24) = wR at *
  refine (HG.out wR ea).mono ?_
  rintro e' w1 ⟨rfl, n1, hw1⟩
  have hx1 : Ex wR w1 := by rw [hw1]; exact (Ex.refl wR).drewN n1
  clear hw1
  have HX1 := hid_ hx1
  have hqlt := World.block_lt_of_cell? _ _ q0
  have Q2 := hid_ (show ∀ j, 2 ≤ j → w1.cell? ⟨q, j, none⟩ = none from fun j hj => (Below.cell hx1 (show (⟨q, j, none⟩ : Addr).block < wR.heap.size from hqlt)).trans (q2 j hj))
  have q0' := hx1.frz q0 qf0
  have q1' := hx1.frz q1 qf1
  have q0 := hx1.cell q0
  have q1 := hx1.cell q1
  clear hx1 qf0 qf1 ea HG q2 hqlt
  by_cases h0 : e = 0
  · subst h0
    obtain ⟨N, rfl, hN1, hN2, S, hSr, hS⟩ := gchk_ok he
    have HP := hid_ (show bldS N rows = (⟨N, chnK N S N⟩, 0) from by unfold bldS; rw [he, if_neg (by decide), hSr, map_fnL hS]; rfl)
    have hN6 : N ≤ 6 := by omega
    have HS := hid_ hS
    have hSl : S.length ≤ 1000 := by rw [hSr, List.length_map] at hrl; exact hrl
    subst hSr
    have hgr := rGroup_any w1 N S _ (HV.out.ex (HEA.out.trans HX1.out)) hS hN1 hN6 hSl
    rw [List.length_map] at hgr
    try rw [List.length_map]
    have HGR := hid_ hgr
    have Q0 := hid_ q0
    have Q1 := hid_ q1
    have QF0 := hid_ q0'
    have QF1 := hid_ q1'
    have HRL := hid_ hrl
    clear he hS hSl q0 q1 q0' q1' hrl hn6 hgr
    go_wp2_with (first | (go_at_call 62; with_reducible refine HGR.out.mono ?_; rintro e w2 ⟨u, A, m, rfl, hG, hm, hu, hx2⟩; have HX2 := hid_ hx2; have HOF := hid_ (rChainOf_any w2 N m S A u hu hG HS.out hN1 hN6 hm); obtain ⟨ua, uc, hue, _, _, _⟩ := hu.open; rw [List.length_map, List.length_range] at hue; subst hue; clear hG hm hu hx2) | (go_at_call 61; with_reducible refine HOF.out.mono ?_; rintro e w4 ⟨lv, rfl, hlv, hx4⟩; obtain ⟨la, lc, hle, _, _, _⟩ := hlv.open; subst hle; have HX4 := hid_ (HX2.out.trans hx4); have q0 := HX4.out.cell Q0.out; have q1 := HX4.out.cell Q1.out; have qf0 := HX4.out.frz Q0.out QF0.out; have qf1 := HX4.out.frz Q1.out QF1.out; have HLV := hid_ hlv; clear hlv hx4))
    have HEX := hid_ (HEA.out.trans (HX1.out.trans HX4.out))
    have hqlt := World.block_lt_of_cell? _ _ Q0.out
    have HL2 := hid_ (HLV.out.set2 q0 q1 (fun j hj => (Below.cell HX4.out (show (⟨q, j, none⟩ : Addr).block < w1.heap.size from hqlt)).trans (Q2.out j hj)) (fun l hl => chnK_big hl) (.int .i64 N) (.slice la (chnK N S N).length lc))
    exact bodyPost_ret (v := .tuple #[.agg #[.int .i64 N, .slice la (chnK N S N).length lc], .int .i64 0]) (by simp [results, Tryz.results37, go_sem, q0, q1]) rfl ⟨bldR_of HP.out HL2.out, (HEX.out.setCell (p := ⟨q, 0, none⟩) (Nat.le_of_eq HQ.out) _).setCell (p := ⟨q, 1, none⟩) (Nat.le_of_eq HQ.out) _⟩
  · have HP := hid_ (show bldS n rows = (⟨0, []⟩, e) from by unfold bldS; rw [he, if_pos h0])
    have hb : (e != 0) = true := by simpa using h0
    clear h0 he
    go_wp2_with fail
    exact bodyPost_ret (v := .tuple #[.agg #[.int .i64 0, .slice none 0 0], .int .i64 e]) (by simp [results, Tryz.results37, go_sem, q0, q1]) rfl ⟨bldR_of HP.out (LSl.nil _), ((HEA.out.trans HX1.out).setCell (p := ⟨q, 0, none⟩) (Nat.le_of_eq HQ.out) _).setCell (p := ⟨q, 1, none⟩) (Nat.le_of_eq HQ.out) _⟩
/-- The box of a chain, new and empty. -/
structure BoxN (w : World) (b : Nat) : Prop where
  c0 : w.cell? ⟨b, 0, none⟩ = some (.int .i64 0)
  c1 : w.cell? ⟨b, 1, none⟩ = some (.slice none 0 0)
  f0 : w.frozen? ⟨b, 0, none⟩ = false
  f1 : w.frozen? ⟨b, 1, none⟩ = false
  far : ∀ j, 2 ≤ j → w.cell? ⟨b, j, none⟩ = none
theorem BoxN.new (w : World) : BoxN (w.alloc (.cells #[.int .i64 0, .slice none 0 0] 24)) w.heap.size :=
  ⟨by simp, by simp, by simp, by simp, fun j hj => by
    obtain ⟨i, rfl⟩ : ∃ i, j = i + 2 := ⟨j - 2, by omega⟩
    simp⟩
theorem BoxN.ex {w w' : World} {b : Nat} (h : BoxN w b) (hx : Ex w w') : BoxN w' b :=
  ⟨hx.cell h.c0, hx.cell h.c1, hx.frz h.c0 h.f0, hx.frz h.c1 h.f1, fun j hj => by
    have hlt := World.block_lt_of_cell? _ _ h.c0
    exact (Below.cell hx (show (⟨b, j, none⟩ : Addr).block < w.heap.size from hlt)).trans (h.far j hj)⟩
theorem BoxN.set {w1 w3 : World} {b : Nat} (h : BoxN w3 b) {D : Int} {K : List Lv} {ka : Option Addr} {kc : Nat} (hk : LSl w3 (.slice ka K.length kc) K) (hb : ∀ l ∈ K, 2 ≤ l.orb.length ∧ 2 ≤ l.reps.length ∧ ∀ r ∈ l.reps, 2 ≤ r.length) (hx : Ex w1 w3) (hle : w1.heap.size ≤ b) :
    (((w3.setCell ⟨b, 0, none⟩ (.int .i64 D)).setCell ⟨b, 1, none⟩ (.slice ka K.length kc)).cell? ⟨b, 0, none⟩ = some (.int .i64 D) ∧ ((w3.setCell ⟨b, 0, none⟩ (.int .i64 D)).setCell ⟨b, 1, none⟩ (.slice ka K.length kc)).cell? ⟨b, 1, none⟩ = some (.slice ka K.length kc)) ∧
    LSl ((w3.setCell ⟨b, 0, none⟩ (.int .i64 D)).setCell ⟨b, 1, none⟩ (.slice ka K.length kc)) (.slice ka K.length kc) K ∧ Ex w1 ((w3.setCell ⟨b, 0, none⟩ (.int .i64 D)).setCell ⟨b, 1, none⟩ (.slice ka K.length kc)) := by
  refine ⟨⟨?_, ?_⟩, hk.set2 h.c0 h.c1 h.far hb _ _, (hx.setCell (p := ⟨b, 0, none⟩) hle _).setCell (p := ⟨b, 1, none⟩) hle _⟩
  · rw [cell_set_off (by decide)]; exact World.cell?_setCell_same _ _ _ h.c0
  · exact World.cell?_setCell_same _ _ _ ((cell_set_off (by decide)).trans h.c1)
theorem box_made {w1 w3 : World} {D : Int} {K : List Lv} {ka : Option Addr} {kc : Nat} (hk : LSl w3 (.slice ka K.length kc) K) (hx : Ex w1 w3) :
    ((w3.alloc (.cells #[.int .i64 D, .slice ka K.length kc] 24)).cell? ⟨w3.heap.size, 0, none⟩ = some (.int .i64 D) ∧ (w3.alloc (.cells #[.int .i64 D, .slice ka K.length kc] 24)).cell? ⟨w3.heap.size, 1, none⟩ = some (.slice ka K.length kc)) ∧
    LSl (w3.alloc (.cells #[.int .i64 D, .slice ka K.length kc] 24)) (.slice ka K.length kc) K ∧ Ex w1 (w3.alloc (.cells #[.int .i64 D, .slice ka K.length kc] 24)) :=
  ⟨⟨by simp, by simp⟩, hk.ex ((Ex.refl _).alloc _), hx.alloc _⟩
set_option maxRecDepth 100000 in
set_option maxHeartbeats 4000000 in
theorem rCheckChain_any (w : World) (d : Int) (L : List Lv) (lv : Value) (hL : LSl w lv L) (hg : (gensL L).length ≤ 1000) (hd6 : d ≤ 6 ∨ 64 < d) :
    Calls Tryz.prog 7 #[.agg #[.int .i64 d, lv]] w fun r w' => r = .returned (.int .i64 (chkS d L)) ∧ Ex w w' := by
  obtain ⟨d0, d1, e0⟩ := boxCh_facts w d lv
  have HL := hid_ (hL.ex e0)
  obtain ⟨za, zc, rfl, _, z2, _⟩ := (hL.ex e0).open3
  unfold maxLen at z2
  have HE0 := hid_ e0
  clear hL e0
  by_cases hd : d < 1 ∨ 64 < d
  · have HR := hid_ (show (4 : Int) = chkS d L from by unfold chkS; rw [if_pos hd])
    by_cases h1 : d < 1
    · have b1 : decide (d < 1) = true := by simpa using h1
      clear hd hd6
      go_enter Tryz.func7, Tryz.ntmps7
      go_wp2_with fail
      go_ret
      exact ⟨ret_int HR.out, HE0.out⟩
    · have h2 : 64 < d := by omega
      have b1 : decide (d < 1) = false := by simpa using h1
      have b2 : decide (64 < d) = true := by simpa using h2
      clear hd hd6
      go_enter Tryz.func7, Tryz.ntmps7
      go_wp2_with fail
      go_ret
      exact ⟨ret_int HR.out, HE0.out⟩
  · have h1 : 1 ≤ d := by omega
    have h2 : d ≤ 64 := by omega
    have b1 : decide (d < 1) = false := by simp; omega
    have b2 : decide (64 < d) = false := by simp; omega
    have HCK0 := hid_ (show (¬ (gchk d (gensL L) = 0 ∧ L = chnK d.toNat ((gensL L).map fnL) d.toNat)) → 5 = chkS d L from fun h => by unfold chkS; rw [if_neg hd]; exact (if_neg h).symm)
    have HCK1 := hid_ (show gchk d (gensL L) = 0 → L = chnK d.toNat ((gensL L).map fnL) d.toNat → 0 = chkS d L from fun h k => by unfold chkS; rw [if_neg hd]; exact (if_pos ⟨h, k⟩).symm)
    clear hd
    go_enter Tryz.func7, Tryz.ntmps7
    go_wp2_with fail
    obtain ⟨q, hq⟩ : ∃ q, w.heap.size = q := ⟨_, rfl⟩
    rw [hq] at d0 d1
    try simp only [hq]
    clear hq
    generalize w.alloc (.cells #[.int .i64 d, .slice za L.length zc] 24) = w1 at *
    have D0 := hid_ d0
    have D1 := hid_ d1
    have HGN := hid_ (fun w2 (h : Ex w1 w2) => rGens_any w2 d L _ (HL.out.ex h) hg)
    have HBD := hid_ (fun w2 v (hv : MSl w2 v (gensL L)) => rBuild_any w2 d (gensL L) v hv hg hd6)
    have G0 : Ex w1 w1.drew := (Ex.refl w1).drew
    obtain ⟨D, rfl⟩ : ∃ D : Nat, d = D := ⟨d.toNat, by omega⟩
    clear d0 d1
    obtain ⟨dd, K, E, hbs, hK0, hK1, hKB⟩ : ∃ (dd : Int) (K : List Lv) (E : Int), bldS D (gensL L) = (⟨dd, K⟩, E) ∧ (E = 0 → dd = D ∧ (L = K → 0 = chkS D L) ∧ (L ≠ K → 5 = chkS D L)) ∧ (E ≠ 0 → 5 = chkS D L) ∧ ∀ l ∈ K, 2 ≤ l.orb.length ∧ 2 ≤ l.reps.length ∧ ∀ r ∈ l.reps, 2 ≤ r.length := by
      by_cases hg0 : gchk D (gensL L) = 0
      · exact ⟨D, chnK D ((gensL L).map fnL) D, 0, by unfold bldS; rw [hg0, if_neg (by decide)]; rfl, fun _ => ⟨rfl, fun h => HCK1.out hg0 h, fun h => HCK0.out fun k => h k.2⟩, fun h => absurd rfl h, fun l hl => chnK_big hl⟩
      · exact ⟨0, [], gchk D (gensL L), by unfold bldS; rw [if_pos hg0], fun h => absurd h hg0, fun _ => HCK0.out fun h => hg0 h.1, fun l hl => by cases hl⟩
    have HBS := hid_ hbs
    have HK0 := hid_ hK0
    have HK1 := hid_ hK1
    have HKB := hid_ hKB
    clear hbs hK0 hK1 hKB
    clear G0
    go_upto_region 3 with fail
    go_cut [3, 4] from 13 to 20 (fun s3 s4 wx => ∃ (b : Nat) (ka : Option Addr) (kc : Nat), s3 = .pointer (some ⟨b, 0, none⟩) ∧ s4 = .int .i64 E ∧ Hid (wx.cell? ⟨b, 0, none⟩ = some (.int .i64 dd) ∧ wx.cell? ⟨b, 1, none⟩ = some (.slice ka K.length kc)) ∧ Hid (LSl wx (.slice ka K.length kc) K) ∧ Hid (Ex w1 wx))
    case first =>
      have d0 := D0.out
      have d1 := D1.out
      have d0x := fun o => ((Ex.refl w1).alloc o).cell D0.out
      have d1x := fun o => ((Ex.refl w1).alloc o).cell D1.out
      go_region_law ((first | (go_simp; go_at_call 38; (first | (with_reducible refine (HGN.out _ (Ex.refl w1).drew).mono ?_; rintro e w2 ⟨ga, gc, rfl, hgv, hx2⟩; have G1 := hid_ ((Ex.refl w1).drew.trans hx2)) | (with_reducible refine (HGN.out _ ((Ex.refl w1).alloc _).drew).mono ?_; rintro e w2 ⟨ga, gc, rfl, hgv, hx2⟩; have G1 := hid_ (((Ex.refl w1).alloc _).drew.trans hx2); have BX := hid_ (((BoxN.new w1).ex (Ex.refl _).drew).ex hx2))); have HGV := hid_ hgv; have d02 := G1.out.cell D0.out; have d12 := G1.out.cell D1.out; have d02x := fun o => (G1.out.alloc o).cell D0.out; have d12x := fun o => (G1.out.alloc o).cell D1.out; clear hgv hx2) | (go_simp; go_at_call 37; (refine (HBD.out _ _ (HGV.out.ex (by repeat (first | exact Ex.refl _ | apply Ex.drew | apply Ex.alloc)))).mono ?_); rintro e w3 ⟨⟨kv, rfl, hkv⟩, hx3⟩; rw [HBS.out] at hkv ⊢; dsimp only at hkv ⊢; obtain ⟨ka, kc, rfl, _, _, _⟩ := hkv.open3; have HKV := hid_ hkv; (first | (have BX := hid_ (BX.out.ex hx3); have G2 := hid_ (G1.out.trans hx3); have HLE := hid_ (show w1.heap.size ≤ w1.heap.size from Nat.le_refl _)) | (have BX := hid_ ((BoxN.new w2).ex hx3); have G2 := hid_ ((G1.out.alloc _).trans hx3); have HLE := hid_ (show w1.heap.size ≤ w2.heap.size from G1.out.size)) | (have G2 := hid_ (G1.out.trans hx3))); try (have b0 := BX.out.c0; have b1 := BX.out.c1; have f0 := BX.out.f0; have f1 := BX.out.f1); clear hkv)))
      all_goals go_wp2_with fail
      all_goals go_meet
      all_goals first
        | (obtain ⟨k1, k2, k3⟩ := BX.out.set (D := dd) HKV.out HKB.out G2.out HLE.out
           exact ⟨_, ka, kc, rfl, rfl, hid_ k1, hid_ k2, hid_ k3⟩)
        | (obtain ⟨k1, k2, k3⟩ := box_made (D := dd) HKV.out G2.out
           exact ⟨_, ka, kc, rfl, rfl, hid_ k1, hid_ k2, hid_ k3⟩)
    case rest =>
      obtain ⟨b, ka, kc, rfl, rfl, hbx, hkl, hxc⟩ := hcut
      by_cases h0 : E = 0
      · subst h0
        obtain ⟨rfl, hk1, hk2⟩ := HK0.out rfl
        have HKA := hid_ hk1
        have HKC := hid_ hk2
        have d0 := hxc.out.cell D0.out
        have d1 := hxc.out.cell D1.out
        obtain ⟨l0, l1⟩ := hbx.out
        have HSM := hid_ (rSame2_any wc D D L K _ _ (HL.out.ex hxc.out) hkl.out)
        clear hk1 hk2
        go_wp2_with fail
        refine HSM.out.mono ?_
        rintro e w5 ⟨⟨bb, rfl, hbb⟩, hx5⟩
        cases bb with
        | true =>
          have HR := hid_ (HKA.out (hbb.1 rfl).2)
          clear hbb
          go_wp2_with fail
          go_ret
          exact ⟨ret_int HR.out, HE0.out.trans (hxc.out.trans hx5)⟩
        | false =>
          have HR := hid_ (HKC.out fun e => by have := hbb.2 ⟨by trivial, e⟩; cases this)
          clear hbb
          go_wp2_with fail
          go_ret
          exact ⟨ret_int HR.out, HE0.out.trans (hxc.out.trans hx5)⟩
      · have HR := hid_ (HK1.out h0)
        have hb : (E != 0) = true := by simpa using h0
        clear h0
        go_wp2_with fail
        go_ret
        exact ⟨ret_int HR.out, HE0.out.trans hxc.out⟩
end Go.Proofs.YtgfdhclpffakfaaGreat
