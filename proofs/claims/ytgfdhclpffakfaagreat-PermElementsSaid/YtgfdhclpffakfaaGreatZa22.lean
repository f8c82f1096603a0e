/- Walk of the tower's chain. -/
import Derived.Test.YtgfdhclpffakfaaGreatZa21
namespace Go.Proofs.YtgfdhclpffakfaaGreat
set_option linter.unusedVariables false
set_option linter.unusedSimpArgs false
open Go.RowKit

open Classical in
noncomputable def orbM (S : List (Nat → Nat)) (b m : Nat) : List Nat := (List.range m).filter fun x => decide (∃ f, Gn S f ∧ FixP b f ∧ f b = x)
open Classical in
theorem orbM_succ (S : List (Nat → Nat)) (b m : Nat) : ((∃ f, Gn S f ∧ FixP b f ∧ f b = m) → orbM S b (m + 1) = orbM S b m ++ [m]) ∧ (¬ (∃ f, Gn S f ∧ FixP b f ∧ f b = m) → orbM S b (m + 1) = orbM S b m) := by
  unfold orbM
  rw [List.range_succ, List.filter_append]
  constructor
  · intro h; simp [List.filter, h]
  · intro h
    have h2 : decide (∃ f, Gn S f ∧ FixP b f ∧ f b = m) = false := decide_eq_false h
    simp only [List.filter, h2, List.append_nil]
theorem orbM_len (S : List (Nat → Nat)) (b m : Nat) : (orbM S b m).length ≤ m := by
  unfold orbM
  exact Nat.le_trans (List.length_filter_le _ _) (by simp)
/-- The representatives of the points of an orbit. -/
noncomputable def repM (n : Nat) (S : List (Nat → Nat)) (b m : Nat) : List (List Int) := (orbM S b m).map fun x => li n (lstP n S b x)
noncomputable def levB (n : Nat) (S : List (Nat → Nat)) (b : Nat) : Lv := ⟨b, il' (orbM S b n), repM n S b n⟩
noncomputable def chnK (n : Nat) (S : List (Nat → Nat)) (m : Nat) : List Lv := ((List.range m).map (levB n S)).filter fun l => decide (1 < l.orb.length)
theorem chnK_succ (n : Nat) (S : List (Nat → Nat)) (m : Nat) : chnK n S (m + 1) = chnK n S m ++ if 1 < (levB n S m).orb.length then [levB n S m] else [] := by
  unfold chnK
  rw [List.range_succ, List.map_append, List.filter_append]
  congr 1
  by_cases h : 1 < (levB n S m).orb.length <;> simp [List.filter, h]
theorem chnK_len (n : Nat) (S : List (Nat → Nat)) (m : Nat) : (chnK n S m).length ≤ m := by
  unfold chnK
  refine Nat.le_trans (List.length_filter_le _ _) (by simp)
section
variable {w0 wr : World} {q n b ob lb : Nat} {lv : Value} {L : List Lv} {os : List (Value × Value)} {ov : Value} {orb : List Int} {rv : Value} {reps : List (List Int)} {vals : List Value} {mb : List Nat}
theorem LvS.atOrb (h : LvS w0 wr q n b ob lb lv L os ov orb rv reps vals mb) {w1 : World} {ov' : Value} {x : Int} (ha : Appd wr w1 w0.heap.size 3 1 ov ov' orb.length (ints orb) [.int .i64 x]) : w1.cell? ⟨lb, 1, none⟩ = some ov ∧ w1.frozen? ⟨lb, 1, none⟩ = false :=
  ⟨ha.cell h.lc1 (fun e => (h.nov lb e.symm).2.1 rfl), ha.frz h.lc1 h.lf1 (fun e => (h.nov lb e.symm).2.1 rfl)⟩
theorem LvS.atRep (h : LvS w0 wr q n b ob lb lv L os ov orb rv reps vals mb) {w1 : World} {rv' z : Value} (ha : Appd wr w1 w0.heap.size 32 1 rv rv' reps.length vals [z]) : w1.cell? ⟨lb, 2, none⟩ = some rv ∧ w1.frozen? ⟨lb, 2, none⟩ = false :=
  ⟨ha.cell h.lc2 (fun e => (h.nrv lb e.symm).2.1 rfl), ha.frz h.lc2 h.lf2 (fun e => (h.nrv lb e.symm).2.1 rfl)⟩
theorem LvS.atLev (h : LvS w0 wr q n b ob lb lv L os ov orb rv reps vals mb) {w1 : World} {lv' : Value} {news : List Value} (ha : Appd wr w1 w0.heap.size 56 3 lv lv' L.length (lvC L os) news) : w1.cell? ⟨ob, 1, none⟩ = some lv ∧ w1.frozen? ⟨ob, 1, none⟩ = false :=
  ⟨ha.cell h.oc1 (fun e => (h.nlv ob e.symm).1 rfl), ha.frz h.oc1 h.of1 (fun e => (h.nlv ob e.symm).1 rfl)⟩
end

set_option maxRecDepth 100000 in
set_option maxHeartbeats 4000000 in
theorem chain_any (w : World) {base n tb rb gb : Nat} {rr : Nat → Nat} {mb0 : List Nat} {t : Tw} {S : List (Nat → Nat)} {k0 : Nat} (htw : TwR w base n tb rb gb rr mb0 t) (hB : BldT n S t k0) (hk0 : S.length ≤ k0) (hS : ∀ s ∈ S, IsP n s) (hn1 : 1 ≤ n) (hn : n ≤ 64) :
    Calls Tryz.prog 48 #[.pointer (some ⟨tb, 0, none⟩)] w fun r w' => ∃ lv, r = .returned (.agg #[.int .i64 n, lv]) ∧ LSl w' lv (chnK n S n) ∧ Ex w w' := by
  obtain ⟨gv, V, hM⟩ := htw
  have HM := hid_ hM
  have HB := hid_ hB
  have HS := hid_ hS
  have HORB := hid_ (fun b (hb : b < n) x => hB.orb hn1 hS hk0 hb x)
  have HCAN := hid_ (fun b x (hb : b < n) r (hr : t.R b x = some r) => hB.canon hn1 hS hk0 hb hr)
  have hn0 : n ≤ 64 := hn
  clear hM hB hS
  go_enter Tryz.func48, Tryz.ntmps48
  have ea : Ex w (w.alloc (.cells #[.int .i64 0, .slice none 0 0] 24)) := (Ex.refl _).alloc _
  have eb : Ex (w.alloc (.cells #[.int .i64 0, .slice none 0 0] 24)) ((w.alloc (.cells #[.int .i64 0, .slice none 0 0] 24)).alloc (.cells #[.int .i64 n, .slice none 0 0] 24)) := (Ex.refl _).alloc _
  have c0 := ea.cell HM.out.c0
  have c0b := eb.cell c0
  go_wp2_with fail
  obtain ⟨q, hq⟩ : ∃ q, w.heap.size = q := ⟨_, rfl⟩
  have HM1 := hid_ (HM.out.ex ea)
  have hsz : (w.alloc (.cells #[.int .i64 0, .slice none 0 0] 24)).heap.size = q + 1 := by simp [hq]
  have q0 : (w.alloc (.cells #[.int .i64 0, .slice none 0 0] 24)).cell? ⟨q, 0, none⟩ = some (.int .i64 0) := by rw [← hq]; simp
  have q1 : (w.alloc (.cells #[.int .i64 0, .slice none 0 0] 24)).cell? ⟨q, 1, none⟩ = some (.slice none 0 0) := by rw [← hq]; simp
  have qf0 : (w.alloc (.cells #[.int .i64 0, .slice none 0 0] 24)).frozen? ⟨q, 0, none⟩ = false := by rw [← hq]; simp
  have qf1 : (w.alloc (.cells #[.int .i64 0, .slice none 0 0] 24)).frozen? ⟨q, 1, none⟩ = false := by rw [← hq]; simp
  try simp only [hq]
  generalize w.alloc (.cells #[.int .i64 0, .slice none 0 0] 24) = wR at *
  have HCS := hid_ (show ChS wR (wR.alloc (.cells #[.int .i64 n, .slice none 0 0] 24)) q n (q + 1) (.slice none 0 0) [] [] [q + 1] from ⟨by rw [← hsz]; simp, by rw [← hsz]; simp, by rw [← hsz]; simp, ChM.nil _ _ _ _, fun B e => (by cases e), by simp, by omega, fun B hB => by
    rw [List.mem_singleton.1 hB, ← hsz]; simp, eb⟩)
  have EA := hid_ ea
  have Q0 := hid_ q0
  have Q1 := hid_ q1
  have QF0 := hid_ qf0
  have QF1 := hid_ qf1
  have HQW := hid_ (show w.heap.size ≤ q from by omega)
  clear ea eb c0 c0b q0 q1 qf0 qf1 hsz
  generalize wR.alloc (.cells #[.int .i64 n, .slice none 0 0] 24) = wA at *
  clear hq
  go_loopw [17] (fun b' wr => ∃ (b : Nat) (lv : Value) (os : List (Value × Value)) (mb : List Nat), b ≤ n ∧ b' = .int .i64 b ∧ Hid (ChS wR wr q n (q + 1) lv (chnK n S b) os mb)) (fun b' _ => n - (intOf b').toNat)
  case atStart => exact ⟨0, _, [], _, by omega, rfl, HCS⟩
  case round =>
    clear HCS
    obtain ⟨b, lv, os, mb, hb, rfl, hcs⟩ := hrel
    have HCL := hid_ (chnK_len n S b)
    by_cases hbn : b < n
    · have i1 : (0 : Int) ≤ (b : Int) := by omega
      have i2 : (b : Int) < (n : Int) := by omega
      obtain ⟨hlv, hmx⟩ := hcs.out.begin_ (b := b)
      have HLV := hid_ hlv
      have HMB := hid_ (HM1.out.ex hlv.ex)
      have c1 := HMB.out.c1
      have c3 := HMB.out.ro b hbn
      clear hlv hmx hcs
      go_wp2_with fail
      obtain ⟨lb, hlb⟩ : ∃ lb, wr.heap.size = lb := ⟨_, rfl⟩
      rw [hlb] at HLV
      try simp only [hlb]
      generalize wr.alloc (.cells #[.int .i64 b, .slice none 0 0, .slice none 0 0] 56) = wb at *
      clear hlb c1 c3
      go_loopw [30] (fun x' wr => ∃ (x : Nat) (ov rv : Value) (vals : List Value) (mb : List Nat), x ≤ n ∧ x' = .int .i64 x ∧ Hid (LvS wR wr q n b (q + 1) lb lv (chnK n S b) os ov (il' (orbM S b x)) rv (repM n S b x) vals mb)) (fun x' _ => n - (intOf x').toNat)
      case atStart => exact ⟨0, _, _, _, _, by omega, rfl, HLV⟩
      case round =>
        clear HLV
        obtain ⟨x, ov, rv, vals, mb, hx, rfl, hls⟩ := hrel
        by_cases hxn : x < n
        · have i3 : (0 : Int) ≤ (x : Int) := by omega
          have i4 : (x : Int) < (n : Int) := by omega
          have HMX := hid_ (HM1.out.ex hls.out.ex)
          have d3 := (HMX.out.row b hbn).cell hxn
          have hrep := HM.out.rep b x hbn hxn
          cases hR : t.R b x with
          | none =>
            rw [hR] at hrep
            have hrep : V b x = .slice none 0 0 := hrep
            rw [hrep] at d3
            have HOE := hid_ ((orbM_succ S b x).2 (fun h => by
              obtain ⟨r, hr⟩ := (HORB.out b hbn x).2 h
              rw [hR] at hr; cases hr))
            have HRE := hid_ (show repM n S b (x + 1) = repM n S b x from by unfold repM; rw [HOE.out])
            clear hrep hR
            go_wp2_with fail
            go_roundw
            case rel => exact ⟨x + 1, ov, rv, vals, mb, by omega, by go_num, by rw [HOE.out, HRE.out]; exact hls⟩
            case measure => simp [intOf]; omega
          | some r =>
            rw [hR] at hrep
            have hrep : PV _ mb0 n (V b x) r := hrep
            obtain ⟨vb, vo, vc, hV, _, _, hvo, _⟩ := hrep.at_
            obtain ⟨_, _, hrP, hrF, hrb⟩ := HB.out.good.rep _ _ _ hR
            rw [hV] at d3
            have HOE := hid_ ((orbM_succ S b x).1 ((HORB.out b hbn x).1 ⟨r, hR⟩))
            have HLS := hid_ (lstP_eq HS.out (HCAN.out b x hbn r hR))
            have HRE := hid_ (show repM n S b (x + 1) = repM n S b x ++ [li n (lstP n S b x)] from by unfold repM; rw [HOE.out, List.map_append]; rfl)
            have HIE := hid_ (show il' (orbM S b (x + 1)) = il' (orbM S b x) ++ [(x : Int)] from by rw [HOE.out, il'_app])
            have HST := hid_ hls.out
            obtain ⟨oa, oc, hov⟩ := own_shape HST.out.ovo
            subst hov
            have c1 := HST.out.lc1
            have hol : (il' (orbM S b x)).length ≤ 64 := by rw [il'_len]; have := orbM_len S b x; omega
            have HSB := hid_ HST.out.ex.size
            have HRS := hid_ (show ISl wR (.slice (some ⟨vb, vo, none⟩) n vc) (li n r) from by rw [← hV]; exact hrep.sl.ex EA.out)
            have HRP := hid_ hrP
            have HVO := hid_ hvo
            clear hrep hV hrP hrF hrb hls HMX hR hvo
            go_upto_region 11 with (at_builtin; refine wpList_append1 _ rfl _ _ 32 rfl wR.heap.size 3 (.int .i64 0) 1 8 Tryz.underlying32 infoInt rfl (by decide) _ (il' (orbM S b x)).length _ rfl HST.out.ovo [.int .i64 (x : Int)] 3 _ rfl (by simp) rfl (by simp [Value.oneCell']) (by unfold maxLen; omega) (by omega) HSB.out ?_)
            intro ov' w4 happ
            obtain ⟨oa2, oc2, hov2⟩ := own_shape happ.own
            subst hov2
            obtain ⟨e1, e2⟩ := HST.out.atOrb happ
            obtain ⟨mb2, hs2, _⟩ := HST.out.appOrb happ
            have HS2 := hid_ hs2
            clear happ hs2 d3 c1
            go_upto_region 11 with fail
            obtain ⟨wo, hwo⟩ : ∃ wo, w4.setCell ⟨lb, 1, none⟩ (.slice oa2 ((il' (orbM S b x)).length + 1) oc2) = wo := ⟨_, rfl⟩
            rw [hwo] at HS2 ⊢
            clear hwo e1 e2
            obtain ⟨ra, rc, hrv⟩ := own_shape HS2.out.rvo
            subst hrv
            have c2 := HS2.out.lc2
            have E0 : Ex wo wo.drew := (Ex.refl wo).drew
            have hrl : (repM n S b x).length ≤ 64 := by unfold repM; rw [List.length_map]; have := orbM_len S b x; omega
            have HCA := hid_ (fun w5 (h5 : Ex wo w5) => canon_any w5 (HM1.out.ex (HS2.out.ex.trans h5)) HB.out.good hn1 hn _ r b hbn (HRS.out.ex (HS2.out.ex.trans h5)) HRP.out)
            go_region_law ((first | (go_simp; go_at_call 71; (with_reducible refine (HCA.out _ E0).mono ?_); rintro e w5 ⟨z, rfl, hz, hfr, hx5⟩; have E5 := E0.trans hx5; have c25 := E5.cell c2; obtain ⟨za, zc, hzs, _, _, _⟩ := isl_li hz; subst hzs; have c26 := ((Ex.refl w5).alloc (.cells #[.slice za n zc] 32)).cell c25; have HZ := hid_ hz; have HFR := hid_ hfr; clear hz hfr; have HS5 := hid_ (HS2.out.later E5)) | (refine step_append_sl (by rfl) _ _ _ (by rfl) wR.heap.size 32 (.slice none 0 0) 1 24 Tryz.underlying46 infoIntsL rfl (by decide) (.slice ra (repM n S b x).length rc) (repM n S b x).length vals (by rfl) (ownsRow_ex HS5.out.rvo ((Ex.refl w5).alloc _)) _ 1 [.slice za n zc] (by rfl) (Sl.own (own_lit1 w5 (.slice za n zc) 32)) (by simp [Value.oneCell']) (by unfold maxLen; omega) (by omega) (Nat.le_trans HS5.out.ex.size (by simp)) ?_; intro v6 w6 hown6 hg6 ha6; have HAP := hid_ (show Appd w5 w6 wR.heap.size 32 1 (.slice ra (repM n S b x).length rc) v6 (repM n S b x).length vals [.slice za n zc] from ⟨hown6, ⟨_, hg6⟩, by simpa using ha6, HS5.out.rvo⟩); obtain ⟨k1, k2⟩ := HS5.out.atRep HAP.out; obtain ⟨va, vc6, hv6⟩ := own_shape hown6; subst hv6; clear hown6 hg6 ha6)))
            all_goals
              have HSI := hid_ (show SI w5 (q :: mb2) (.slice za n zc) (li n (lstP n S b x)) from ⟨by rw [HLS.out]; exact HZ.out, fun _ B e => by
                obtain ⟨b', o', hza, hb5, _⟩ := isl_li_at HZ.out hn1
                subst hza
                injection e with e
                have e : b' = B := e
                subst e
                refine ⟨fun hm => ?_, hb5⟩
                have hl : b' = q ∨ wR.heap.size ≤ b' ∧ b' < wo.heap.size := by
                  rcases List.mem_cons.1 hm with e | e
                  · exact .inl e
                  · exact .inr (HS2.out.lo b' e)
                have hqw := HQW.out
                have hql := HS2.out.ql
                have hws := HS2.out.ex.size
                have hea := EA.out.size
                rcases HFR.out with h1 | ⟨g, cap', h1, h2⟩
                · injection h1 with h1 _ _
                  injection h1 with h1
                  injection h1 with h1
                  have := HVO.out
                  omega
                · injection h1 with h1 _ _
                  injection h1 with h1
                  injection h1 with h1
                  have h2 : wo.heap.size ≤ g := h2
                  omega⟩)
              have HRS2 := hid_ (HS5.out.appRep HSI.out HAP.out)
              clear k1 k2 c2 c25 c26
              go_wp2_with fail
              go_roundw
              case rel =>
                obtain ⟨mb', h1⟩ := HRS2.out
                first
                | exact ⟨x + 1, _, _, _, mb', by omega, by go_num, by rw [HIE.out, HRE.out]; exact hid_ h1.1⟩
                | ((repeat apply Exists.intro); exact ⟨⟨x + 1, _, _, _, mb', by omega, by go_num, by rw [HIE.out, HRE.out]; exact hid_ h1.1⟩, rfl⟩)
              case measure => simp [intOf]; omega
        · obtain rfl : x = n := by omega
          have HST := hid_ hls.out
          obtain ⟨oa, oc, hov⟩ := own_shape HST.out.ovo
          subst hov
          have c1 := HST.out.lc1
          have hcl : (chnK x S b).length ≤ 64 := by have := HCL.out; omega
          have HSB := hid_ HST.out.ex.size
          by_cases h1 : 1 < (il' (orbM S b x)).length
          · have HCE := hid_ (show chnK x S (b + 1) = chnK x S b ++ [⟨b, il' (orbM S b x), repM x S b x⟩] from by
              rw [chnK_succ, if_pos (show 1 < (levB x S b).orb.length from h1)]; rfl)
            have b1 : decide (1 < ((il' (orbM S b x)).length : Int)) = true := by simp; omega
            have b2 : decide (1 < (il' (orbM S b x)).length) = true := by simpa using h1
            obtain ⟨la, lc, hlv⟩ := own_shape HST.out.ch.own
            obtain ⟨ra, rc, hrv⟩ := own_shape HST.out.rvo
            subst hlv hrv
            have l0 := HST.out.lc0
            have l2 := HST.out.lc2
            have o1 := HST.out.oc1
            clear h1 hls
            go_wp2_with (at_builtin; refine wpList_append1 _ rfl _ _ 22 rfl wR.heap.size 56 (.agg #[.int .i64 0, .slice none 0 0, .slice none 0 0]) 3 56 Tryz.underlying22 infoLevel rfl (by decide) _ (chnK x S b).length _ rfl HST.out.ch.own [.int .i64 b, .slice oa (il' (orbM S b x)).length oc, .slice ra (repM x S b x).length rc] 56 _ rfl (by simp) rfl (by simp [Value.oneCell']) (by unfold maxLen; omega) (by omega) HSB.out ?_)
            intro lv2 w4 happ
            obtain ⟨la2, lc2, hlv2⟩ := own_shape happ.own
            subst hlv2
            obtain ⟨e1, e2⟩ := HST.out.atLev happ
            have HK := hid_ (HST.out.keep happ)
            clear happ l0 l2 o1 c1
            go_wp2_with fail
            go_roundw
            case rel =>
              obtain ⟨mb', h1⟩ := HK.out
              first
              | exact ⟨b + 1, _, _, mb', by omega, by go_num, by rw [HCE.out]; exact hid_ h1⟩
              | ((repeat apply Exists.intro); exact ⟨⟨b + 1, _, _, mb', by omega, by go_num, by rw [HCE.out]; exact hid_ h1⟩, rfl⟩)
            case measure => simp [intOf]; omega
          · have HCE := hid_ (show chnK x S (b + 1) = chnK x S b from by
              rw [chnK_succ, if_neg (show ¬ 1 < (levB x S b).orb.length from h1), List.append_nil])
            have b1 : decide (1 < ((il' (orbM S b x)).length : Int)) = false := by simp; omega
            have b2 : decide (1 < (il' (orbM S b x)).length) = false := by simpa using h1
            have HK := hid_ hls.out.drop
            clear h1 hls
            go_wp2_with fail
            go_roundw
            case rel => first | exact ⟨b + 1, lv, os, mb, by omega, by go_num, by rw [HCE.out]; exact HK⟩ | ((repeat apply Exists.intro); exact ⟨⟨b + 1, lv, os, mb, by omega, by go_num, by rw [HCE.out]; exact HK⟩, rfl⟩)
            case measure => simp [intOf]; omega
    · obtain rfl : b = n := by omega
      have o0 := hcs.out.oc0
      have o1 := hcs.out.oc1
      obtain ⟨la, lc, hlv⟩ := own_shape hcs.out.ch.own
      subst hlv
      have q0 := hcs.out.ex.cell Q0.out
      have q1 := hcs.out.ex.cell Q1.out
      have qf0 := hcs.out.ex.frz Q0.out QF0.out
      have qf1 := hcs.out.ex.frz Q1.out QF1.out
      have HCS := hid_ hcs.out
      clear hcs
      go_wp2_with fail
      exact bodyPost_ret (v := .agg #[.int .i64 b, .slice la (chnK b S b).length lc]) (by simp [results, Tryz.results48, go_sem, q0, q1]) rfl ⟨_, rfl, HCS.out.out _ _, ((EA.out.trans HCS.out.ex).setCell (p := ⟨q, 0, none⟩) HQW.out _).setCell (p := ⟨q, 1, none⟩) HQW.out _⟩
end Go.Proofs.YtgfdhclpffakfaaGreat
