/- Walk of the law PeelResidual. -/
import Derived.Test.YtpphaicbdeeacaaPeelR
import Derived.Test.YtpphaicbdeeacaaPeelT
namespace Go.Proofs.Ytpphaicbdeeacaa
set_option linter.unusedVariables false
set_option linter.unusedSimpArgs false
open Go.RowKit

theorem ChkOut.unique {p m : Int} {ml : List Int} {cols : Int} {rows : List (List Int)} {a b : Int} (h : ChkOut p m ml cols rows a) (k : ChkOut p m ml cols rows b) : a = b := by
  rcases h with ⟨pn, mn, h1, h2, h3, h4⟩ | ⟨h1, h2⟩
  · rcases k with ⟨pn', mn', k1, k2, k3, k4⟩ | ⟨k1, k2⟩
    · have e1 : pn' = pn := by omega
      have e2 : mn' = mn := by omega
      subst e1 e2
      rw [h4, k4]
    · exact absurd h3 k1
  · rcases k with ⟨pn', mn', k1, k2, k3, k4⟩ | ⟨k1, k2⟩
    · exact absurd k3 h1
    · rw [h2, k2]
theorem risB_of {n : Int} {l : List Int} (h1 : l.Pairwise (· < ·)) (h2 : ∀ x ∈ l, 0 ≤ x ∧ x < n) : risB n l = true := by
  refine risB_t fun i hi => ?_
  unfold risAt
  have hx : l[i]? = some (l[i]'hi) := List.getElem?_eq_getElem hi
  rw [List.getD_eq_getElem?_getD, hx]
  obtain ⟨a, b⟩ := h2 _ (List.getElem_mem hi)
  refine decide_eq_true ⟨a, b, fun h0 => ?_⟩
  rw [List.getD_eq_getElem?_getD, List.getElem?_eq_getElem (show i - 1 < l.length by omega)]
  exact List.pairwise_iff_getElem.1 h1 (i - 1) i (by omega) hi (by omega)
theorem lft_pairwise (N : Nat) (f : Nat → Bool) : (lft N f).Pairwise (· < ·) := by
  unfold lft
  rw [List.pairwise_map]
  refine List.Pairwise.imp ?_ (List.pairwise_lt_range.filter f)
  intro a b h
  omega
theorem lft_mem {N : Nat} {f : Nat → Bool} {x : Int} (h : x ∈ lft N f) : 0 ≤ x ∧ x < N := by
  unfold lft at h
  obtain ⟨a, ha, rfl⟩ := List.mem_map.1 h
  have := List.mem_range.1 (List.mem_filter.1 ha).1
  omega
theorem risB_lft (N : Nat) (f : Nat → Bool) : risB N (lft N f) = true := risB_of (lft_pairwise N f) fun _ h => lft_mem h
theorem pchkS_supp {q N : Nat} {H : List (List Int)} (h1 : 1 ≤ N) (h2 : N ≤ 64) (hm : mchkS q N H = 0) : pchkS N (H.map supp) = 0 := by
  obtain ⟨_, _, hl, hr⟩ := mchk_shape hm
  unfold pchkS
  rw [if_neg (by omega), if_neg (by rw [List.length_map]; omega), if_pos]
  rw [List.all_eq_true]
  intro r hr'
  obtain ⟨s, hs, rfl⟩ := List.mem_map.1 hr'
  have := (hr s hs).1
  have e : s.length = N := by omega
  unfold supp suppK
  rw [e]
  exact risB_lft _ _
theorem PeelW.peels {p m : Nat} {ml : List Int} {N : Nat} {H : List (List Int)} {x x' : Nat → Int} {f f' : Nat → Bool} (h : PeelW p m ml N H x f x' f') : Peels (H.map supp) f f' := by
  induction h with
  | done x f h => exact .done f h
  | step x f x' f' i j r hi hr ha hall _ ih => exact .step f f' (by omega) (by rw [hi, Int.toNat_natCast]; exact ih)

/-- The positions that are left are the greatest stopping set within the erased ones. -/
theorem residual {p m : Int} {ml : List Int} {cols : Int} {H : List (List Int)} {w er X L K : List Int} {V : Int} {gr : List (List Int)} (hg : GrS p m ml cols H V gr 0) (hp : PeelS p m ml cols H w er X L 0) (hk : GreL V gr er K) : setsE V gr er = 0 ∧ L = K := by
  obtain ⟨pn, mn, N, rfl, rfl, rfl, rfl, hf, hm, h1, h2, rfl⟩ := hg.ok
  obtain ⟨V, gr, ge, hg2, ⟨a, _, _, b⟩ | ⟨_, pn', mn', N', e1, e2, e3, _, _, _, _, _, hb⟩⟩ := hp
  · exact absurd b.symm a
  · have e1 : pn' = pn := by omega
    have e2 : mn' = mn := by omega
    have e3 : N' = N := by omega
    subst e1 e2 e3
    rcases hb with ⟨_, _, _, h⟩ | ⟨_, _, _, _, h⟩ | ⟨_, _, _, _, _, h⟩ | ⟨_, _, hr, x, f, hw, ⟨_, _, _, h⟩ | ⟨_, _, hL, _⟩⟩
    · cases h
    · cases h
    · cases h
    · cases h
    · have hs : setsE (N' : Int) (H.map supp) er = 0 := by
        unfold setsE
        rw [if_pos (pchkS_supp h1 h2 hm), hr]; rfl
      refine ⟨hs, ?_⟩
      obtain ⟨f2, hf2, hK⟩ := hk.2 hs
      rw [hL, hK, hw.peels.unique hf2, Int.toNat_natCast]

theorem box48_facts (w : World) (a b : Value) (t : TypeId) : (w.alloc (.cells #[a, b] t)).cell? ⟨w.heap.size, 0, none⟩ = some a ∧ (w.alloc (.cells #[a, b] t)).cell? ⟨w.heap.size, 1, none⟩ = some b ∧ Ex w (w.alloc (.cells #[a, b] t)) := ⟨by simp, by simp, (Ex.refl _).alloc _⟩

set_option maxRecDepth 100000 in
set_option maxHeartbeats 8000000 in
theorem PeelResidual_any (w : World) (p m : Int) (mv : Value) (ml : List Int) (cols : Int) (v : Value) (rows : List (List Int)) (u0 u1 : Value) (l0 l1 : List Int) (hmv : ISl w mv ml) (hv : MSl w v rows) (h0 : ISl w u0 l0) (h1 : ISl w u1 l1) :
    Calls Try.prog 6 #[.agg #[.int .i64 p, .int .i64 m, mv], .agg #[.int .i64 cols, v], .agg #[u0, u1]] w fun r w' => r = .returned (.bool true) ∧ Ex w w' := by
  obtain ⟨g0, g1, g2, e0, gsz⟩ := box_facts w p m mv
  have HMV := hid_ hmv
  have HV := hid_ hv
  have H0 := hid_ h0
  have H1 := hid_ h1
  obtain ⟨za, zc, rfl, _, _, _⟩ := hv.open
  obtain ⟨ua, uc, rfl, _, _, _⟩ := h0.open
  obtain ⟨xa, xc, rfl, _, _, _⟩ := h1.open
  obtain ⟨xb, hxb⟩ : ∃ xb, w.heap.size = xb := ⟨_, rfl⟩
  rw [hxb] at g0 g1 g2 gsz
  clear hmv hv h0 h1
  go_enter Try.func6, Try.ntmps6
  go_wp2_with fail
  try simp only [hxb]
  clear hxb
  generalize w.alloc (.cells #[.int .i64 p, .int .i64 m, mv] 24) = wA at *
  have a0 : (wA.alloc (.cells #[.int .i64 cols, .slice za rows.length zc] 27)).cell? ⟨xb + 1, 0, none⟩ = some (.int .i64 cols) := by rw [← gsz]; simp
  have a1 : (wA.alloc (.cells #[.int .i64 cols, .slice za rows.length zc] 27)).cell? ⟨xb + 1, 1, none⟩ = some (.slice za rows.length zc) := by rw [← gsz]; simp
  have asz : (wA.alloc (.cells #[.int .i64 cols, .slice za rows.length zc] 27)).heap.size = xb + 1 + 1 := by simp [gsz]
  have eA : Ex wA (wA.alloc (.cells #[.int .i64 cols, .slice za rows.length zc] 27)) := (Ex.refl _).alloc _
  generalize wA.alloc (.cells #[.int .i64 cols, .slice za rows.length zc] 27) = wB at *
  have q0 : (wB.alloc (.cells #[.slice ua l0.length uc, .slice xa l1.length xc] 48)).cell? ⟨xb + 1 + 1, 0, none⟩ = some (.slice ua l0.length uc) := by rw [← asz]; simp
  have q1 : (wB.alloc (.cells #[.slice ua l0.length uc, .slice xa l1.length xc] 48)).cell? ⟨xb + 1 + 1, 1, none⟩ = some (.slice xa l1.length xc) := by rw [← asz]; simp
  have eB : Ex wB (wB.alloc (.cells #[.slice ua l0.length uc, .slice xa l1.length xc] 48)) := (Ex.refl _).alloc _
  generalize wB.alloc (.cells #[.slice ua l0.length uc, .slice xa l1.length xc] 48) = wC at *
  have c0 := eB.cell (eA.cell g0)
  have c1 := eB.cell (eA.cell g1)
  have c2 := eB.cell (eA.cell g2)
  have c3 := eB.cell a0
  have c4 := eB.cell a1
  have EX := hid_ ((e0.trans eA).trans eB)
  clear g0 g1 g2 a0 a1 gsz asz e0 eA eB wA wB
  refine (awake_any wC).mono ?_
  rintro e w1 ⟨rfl, hx1⟩
  have c0 := hx1.cell c0
  have c1 := hx1.cell c1
  have c2 := hx1.cell c2
  have c3 := hx1.cell c3
  have c4 := hx1.cell c4
  have q0 := hx1.cell q0
  have q1 := hx1.cell q1
  have EX := hid_ (EX.out.trans hx1)
  clear hx1
  go_wp2_with fail
  refine (few_any p m ml mv w1 cols rows _ (HV.out.ex EX.out)).mono ?_
  rintro e w2 ⟨b, rfl, hx2⟩
  have c0 := hx2.cell c0
  have c1 := hx2.cell c1
  have c2 := hx2.cell c2
  have c3 := hx2.cell c3
  have c4 := hx2.cell c4
  have q0 := hx2.cell q0
  have q1 := hx2.cell q1
  have EX := hid_ (EX.out.trans hx2)
  clear hx2
  cases b with
  | false =>
    go_wp2_with (go_at_call 12; refine (awake_any _).mono ?_; rintro e w3 ⟨rfl, hx3⟩)
    go_ret
    exact ⟨rfl, EX.out.trans hx3⟩
  | true =>
    by_cases hl0 : 100 < (l0.length : Int)
    · go_wp2_with (go_at_call 12; refine (awake_any _).mono ?_; rintro e w3 ⟨rfl, hx3⟩)
      go_ret
      exact ⟨rfl, EX.out.trans hx3⟩
    · have hl0' : (l0.length : Int) ≤ 100 := by omega
      have d0 : decide (100 < (l0.length : Int)) = false := by simp; omega
      clear hl0
      by_cases hl1 : 100 < (l1.length : Int)
      · go_wp2_with (go_at_call 12; refine (awake_any _).mono ?_; rintro e w3 ⟨rfl, hx3⟩)
        go_ret
        exact ⟨rfl, EX.out.trans hx3⟩
      · have hl1' : (l1.length : Int) ≤ 100 := by omega
        have d1 : decide (100 < (l1.length : Int)) = false := by simp; omega
        clear hl1
        go_wp2_with fail
        refine (rChkM_any p m ml mv w2 (HMV.out.ex EX.out) cols rows _ (HV.out.ex EX.out)).mono ?_
        rintro e w3 ⟨ec, rfl, hec, hx3⟩
        have c0 := hx3.cell c0
        have c1 := hx3.cell c1
        have c2 := hx3.cell c2
        have c3 := hx3.cell c3
        have c4 := hx3.cell c4
        have q0 := hx3.cell q0
        have q1 := hx3.cell q1
        have EX := hid_ (EX.out.trans hx3)
        have HEC := hid_ hec
        clear hx3 hec
        by_cases hz : ec = 0
        · subst hz
          by_cases hc : cols < 1
          · go_wp2_with (go_at_call 12; refine (awake_any _).mono ?_; rintro e w4 ⟨rfl, hx4⟩)
            go_ret
            exact ⟨rfl, EX.out.trans hx4⟩
          · have hc' : 1 ≤ cols := by omega
            have dc : decide (cols < 1) = false := by simp; omega
            clear hc
            by_cases hc2 : 64 < cols
            · go_wp2_with (go_at_call 12; refine (awake_any _).mono ?_; rintro e w4 ⟨rfl, hx4⟩)
              go_ret
              exact ⟨rfl, EX.out.trans hx4⟩
            · have hc2' : cols ≤ 64 := by omega
              have dc2 : decide (64 < cols) = false := by simp; omega
              clear hc2
              go_wp2_with fail
              refine (Graph_any p m ml mv w3 (HMV.out.ex EX.out) cols rows _ (HV.out.ex EX.out)).mono ?_
              rintro e w4 ⟨V, cv, gr, ge, rfl, hg, hcv, hx4⟩
              have hge : ge = 0 := by
                obtain ⟨ec', k1, ⟨k2, _, _, k3⟩ | ⟨_, k2, _⟩ | ⟨_, _, _, _, _, k2⟩⟩ := hg
                · exact absurd (k1.unique HEC.out) k2
                · omega
                · exact k2
              subst hge
              obtain ⟨ca, cc, rfl, _, _, _⟩ := hcv.open
              have e5 : Ex w4 (w4.alloc (.cells #[.int .i64 V, .slice ca gr.length cc] 31)) := (Ex.refl _).alloc _
              have t0 : (w4.alloc (.cells #[.int .i64 V, .slice ca gr.length cc] 31)).cell? ⟨w4.heap.size, 0, none⟩ = some (.int .i64 V) := by simp
              have t1 : (w4.alloc (.cells #[.int .i64 V, .slice ca gr.length cc] 31)).cell? ⟨w4.heap.size, 1, none⟩ = some (.slice ca gr.length cc) := by simp
              have c0 := e5.cell (hx4.cell c0)
              have c1 := e5.cell (hx4.cell c1)
              have c2 := e5.cell (hx4.cell c2)
              have c3 := e5.cell (hx4.cell c3)
              have c4 := e5.cell (hx4.cell c4)
              have q0 := e5.cell (hx4.cell q0)
              have q1 := e5.cell (hx4.cell q1)
              have EX := hid_ ((EX.out.trans hx4).trans e5)
              have HCV := hid_ (hcv.ex e5)
              have HG := hid_ hg
              clear hx4 e5 hcv hg
              go_wp2_with fail
              generalize w4.alloc (.cells #[.int .i64 V, .slice ca gr.length cc] 31) = w5 at *
              refine (Peel_any p m ml mv w5 (HMV.out.ex EX.out) cols rows _ (HV.out.ex EX.out) l0 l1 _ _ (H0.out.ex EX.out) (H1.out.ex EX.out)).mono ?_
              rintro e w6 ⟨X, L, xv, lv, pe, rfl, hp, hX, hL, hx6⟩
              have t0 := hx6.cell t0
              have t1 := hx6.cell t1
              have q1 := hx6.cell q1
              have EX := hid_ (EX.out.trans hx6)
              have HCV := hid_ (HCV.out.ex hx6)
              have HP := hid_ hp
              have HL := hid_ hL
              clear hx6 hp hX hL c0 c1 c2 c3 c4 q0
              by_cases hpe : pe = 0
              · subst hpe
                go_wp2_with fail
                refine (Greatest_any w6 V gr _ HCV.out l1 _ (H1.out.ex EX.out)).mono ?_
                rintro e w7 ⟨u, K, rfl, hk, hK, hx7⟩
                obtain ⟨r1, r2⟩ := residual HG.out HP.out hk
                rw [r1]
                subst r2
                have HSI := hid_ (SameInts_any w7 L L _ _ (HL.out.ex hx7) hK)
                rw [show decide (L = L) = true by simp] at HSI
                have EX := hid_ (EX.out.trans hx7)
                obtain ⟨la, lc, rfl, _, _, _⟩ := HL.out.open
                obtain ⟨ka, kc, rfl, _, _, _⟩ := hK.open
                clear r1 hk hK hx7 t0 t1 q1
                go_wp2_with (go_at_call 28; refine HSI.out.mono ?_; rintro e w8 ⟨rfl, n, rfl⟩)
                go_ret
                exact ⟨rfl, EX.out.drewN n⟩
              · have hpb : (pe != 0) = true := by simpa using hpe
                clear hpe
                go_wp2_with fail
                go_ret
                exact ⟨rfl, EX.out⟩
        · have hzb : (ec != 0) = true := by simpa using hz
          clear hz
          go_wp2_with (go_at_call 12; refine (awake_any _).mono ?_; rintro e w4 ⟨rfl, hx4⟩)
          go_ret
          exact ⟨rfl, EX.out.trans hx4⟩
end Go.Proofs.Ytpphaicbdeeacaa
