/- Walk of the reference's Of and Build. -/
import Derived.Test.YtgfdhclpffakfaaGreatZa22
import Derived.Test.YtgfdhclpffakfaaGreatZa26
import Derived.Test.YtgfdhclpffakfaaGreatZa39
namespace Go.Proofs.YtgfdhclpffakfaaGreat
set_option linter.unusedVariables false
set_option linter.unusedSimpArgs false
open Go.RowKit

theorem orbM_base {n : Nat} {S : List (Nat → Nat)} (hS : ∀ s ∈ S, IsP n s) (b : Nat) : orbM S b b = [] := by
  apply List.eq_nil_iff_forall_not_mem.2
  intro x hx
  obtain ⟨hxb, f, hf, hF, hfb⟩ := mem_orbM.1 hx
  have hP := hf.isP hS
  have := hF x hxb
  have := hP.inj b x (by rw [hfb, this])
  omega
theorem GrpL.none {n m : Nat} {S : List (Nat → Nat)} {A : Nat → Nat → Nat} (h : GrpL n m S A) {b y : Nat} (hn : ∀ j, j < m → ¬ (FixP b (A j) ∧ A j b = y)) : ¬ ∃ f, Gn S f ∧ FixP b f ∧ f b = y := by
  rintro ⟨f, hf, hF, hfb⟩
  obtain ⟨i, hi, rfl⟩ := (h.all f).1 hf
  exact hn i hi ⟨hF, hfb⟩
set_option maxRecDepth 100000 in
set_option maxHeartbeats 4000000 in
theorem rChainOf_any (w : World) (n m : Nat) (S : List (Nat → Nat)) (A : Nat → Nat → Nat) (v : Value) (hv : MSl w v ((List.range m).map fun i => li n (A i))) (hG : GrpL n m S A) (hS : ∀ s ∈ S, IsP n s) (hn1 : 1 ≤ n) (hn : n ≤ 6) (hm : m ≤ 46656) :
    Calls Tryz.prog 61 #[.int .i64 n, v] w fun r w' => ∃ lv, r = .returned (.agg #[.int .i64 n, lv]) ∧ LSl w' lv (chnK n S n) ∧ Ex w w' := by
  have hml : ((List.range m).map fun i => li n (A i)).length = m := by simp
  obtain ⟨va, vcap, rfl, _, s2, s3⟩ := hv.open
  rw [hml] at s3
  rw [hml]
  unfold maxLen at s2
  have S3 := hid_ s3
  have HG := hid_ hG
  have HS := hid_ hS
  have HPA := hid_ (show ∀ i, i < m → IsP n (A i) from fun i hi => ((hG.all _).2 ⟨i, hi, rfl⟩).isP hS)
  clear hv hG hS s3 hml
  go_enter Tryz.func61, Tryz.ntmps61
  have ea : Ex w (w.alloc (.cells #[.int .i64 0, .slice none 0 0] 24)) := (Ex.refl _).alloc _
  have eb : Ex (w.alloc (.cells #[.int .i64 0, .slice none 0 0] 24)) ((w.alloc (.cells #[.int .i64 0, .slice none 0 0] 24)).alloc (.cells #[.int .i64 n, .slice none 0 0] 24)) := (Ex.refl _).alloc _
  go_wp2_with fail
  obtain ⟨q, hq⟩ : ∃ q, w.heap.size = q := ⟨_, rfl⟩
  have hsz : (w.alloc (.cells #[.int .i64 0, .slice none 0 0] 24)).heap.size = q + 1 := by simp [hq]
  have q0 : (w.alloc (.cells #[.int .i64 0, .slice none 0 0] 24)).cell? ⟨q, 0, none⟩ = some (.int .i64 0) := by rw [← hq]; simp
  have q1 : (w.alloc (.cells #[.int .i64 0, .slice none 0 0] 24)).cell? ⟨q, 1, none⟩ = some (.slice none 0 0) := by rw [← hq]; simp
  have qf0 : (w.alloc (.cells #[.int .i64 0, .slice none 0 0] 24)).frozen? ⟨q, 0, none⟩ = false := by rw [← hq]; simp
  have qf1 : (w.alloc (.cells #[.int .i64 0, .slice none 0 0] 24)).frozen? ⟨q, 1, none⟩ = false := by rw [← hq]; simp
  try simp only [hq]
  generalize w.alloc (.cells #[.int .i64 0, .slice none 0 0] 24) = wR at *
  have HCS := hid_ (show ChS wR (wR.alloc (.cells #[.int .i64 n, .slice none 0 0] 24)) q n (q + 1) (.slice none 0 0) [] [] [q + 1] from ⟨by rw [← hsz]; simp, by rw [← hsz]; simp, by rw [← hsz]; simp, ChM.nil _ _ _ _, fun B e => (by cases e), by simp, by omega, fun B hB => by
    rw [List.mem_singleton.1 hB, ← hsz]; simp, eb⟩)
  have EA := hid_ ea
  have Q0 := hid_ q0
  have Q1 := hid_ q1
  have QF0 := hid_ qf0
  have QF1 := hid_ qf1
  have HQE := hid_ hq
  have HQW := hid_ (show w.heap.size ≤ q from by omega)
  clear ea eb q0 q1 qf0 qf1 hsz
  generalize wR.alloc (.cells #[.int .i64 n, .slice none 0 0] 24) = wA at *
  clear hq
  go_loopw [6] (fun b' wr => ∃ (b : Nat) (lv : Value) (os : List (Value × Value)) (mb : List Nat), b ≤ n ∧ b' = .int .i64 b ∧ Hid (ChS wR wr q n (q + 1) lv (chnK n S b) os mb)) (fun b' _ => n - (intOf b').toNat)
  case atStart => exact ⟨0, _, [], _, by omega, rfl, HCS⟩
  case round =>
    clear HCS
    obtain ⟨b, lv, os, mb, hb, rfl, hcs⟩ := hrel
    have HCL := hid_ (chnK_len n S b)
    by_cases hbn : b < n
    · have i1 : (0 : Int) ≤ (b : Int) := by omega
      have i2 : (b : Int) < (n : Int) := by omega
      obtain ⟨hlv, hmx⟩ := hcs.out.begin_ (b := b)
      have HLV := hid_ hlv
      clear hlv hmx hcs
      go_wp2_with fail
      obtain ⟨lb, hlb⟩ : ∃ lb, wr.heap.size = lb := ⟨_, rfl⟩
      rw [hlb] at HLV
      try simp only [hlb]
      generalize wr.alloc (.cells #[.int .i64 b, .slice none 0 0, .slice none 0 0] 56) = wb at *
      clear hlb
      have HB0 := hid_ (show il' (orbM S b b) = [] ∧ repM n S b b = [] from by
        have := orbM_base HS.out b
        unfold repM
        rw [this]
        exact ⟨rfl, rfl⟩)
      go_loopw [8] (fun x' wr => ∃ (x : Nat) (ov rv : Value) (vals : List Value) (mb : List Nat), b ≤ x ∧ x ≤ n ∧ x' = .int .i64 x ∧ Hid (LvS wR wr q n b (q + 1) lb lv (chnK n S b) os ov (il' (orbM S b x)) rv (repM n S b x) vals mb)) (fun x' _ => n - (intOf x').toNat)
      case atStart => exact ⟨b, _, _, _, _, by omega, by omega, rfl, by rw [HB0.out.1, HB0.out.2]; exact HLV⟩
      case round =>
        clear HLV
        obtain ⟨x, ov, rv, vals, mb, hbx, hx, rfl, hls⟩ := hrel
        by_cases hxn : x < n
        · have i3 : (0 : Int) ≤ (x : Int) := by omega
          have i4 : (x : Int) < (n : Int) := by omega
          go_wp2_with fail
          go_loopw [9] (fun i' wr => ∃ (i : Nat), i ≤ m ∧ i' = .int .i64 i ∧ Hid (∀ j, j < i → ¬ (FixP b (A j) ∧ A j b = x)) ∧ Hid (LvS wR wr q n b (q + 1) lb lv (chnK n S b) os ov (il' (orbM S b x)) rv (repM n S b x) vals mb)) (fun i' _ => m - (intOf i').toNat)
          case atStart => exact ⟨0, by omega, rfl, hid_ (fun j h => by omega), hls⟩
          case round =>
            clear hls
            obtain ⟨i, hi, rfl, hno, hls⟩ := hrel
            by_cases him : i < m
            · have i5 : (0 : Int) ≤ (i : Int) := by omega
              have i6 : (i : Int) < (m : Int) := by omega
              obtain ⟨zb, zo, rfl, hzc⟩ := S3.out (by omega)
              have hr0 : ((List.range m).map fun i => li n (A i))[i]? = some (li n (A i)) := by rw [List.getElem?_map, List.getElem?_range him]; rfl
              obtain ⟨u, c1, hu⟩ := hzc i _ hr0
              have HXR := hid_ (EA.out.trans hls.out.ex)
              have HC1 := hid_ c1
              have c1 := HXR.out.cell c1
              obtain ⟨ua, uc, rfl, _, _, _⟩ := isl_li hu
              obtain ⟨ub, uo, rfl, hub, huc⟩ := isl_li_at hu (by omega)
              have HU := hid_ hu
              have HUB := hid_ hub
              have c2 := HXR.out.cell (huc b hbn)
              have HFX := hid_ (fixes_any wr n (A i) _ (hu.ex HXR.out) b (by omega) (by omega))
              clear hu hub huc hzc hr0
              by_cases hfx : FixP b (A i)
              · rw [(fixB_iff b (A i)).2 hfx] at HFX
                by_cases hay : A i b = x
                · have b1 : ((A i b : Int) == (x : Int)) = true := by simp; omega
                  have b2 : (A i b == x) = true := by simpa using hay
                  have HLP := hid_ (lstP_eq HS.out (HG.out.least him hfx hay hno.out))
                  have HOE := hid_ ((orbM_succ S b x).1 ⟨A i, (HG.out.all _).2 ⟨i, him, rfl⟩, hfx, hay⟩)
                  have HRE := hid_ (show repM n S b (x + 1) = repM n S b x ++ [li n (lstP n S b x)] from by unfold repM; rw [HOE.out, List.map_append]; rfl)
                  have HIE := hid_ (show il' (orbM S b (x + 1)) = il' (orbM S b x) ++ [(x : Int)] from by rw [HOE.out, il'_app])
                  have HST := hid_ hls.out
                  obtain ⟨oa, oc, hov⟩ := own_shape HST.out.ovo
                  subst hov
                  have d1 := HST.out.lc1
                  have hol : (il' (orbM S b x)).length ≤ 64 := by rw [il'_len]; have := orbM_len S b x; omega
                  have HSB := hid_ HST.out.ex.size
                  clear hls hno hay hfx
                  go_upto_region 14 with (first | (go_at_call 87; refine HFX.out.mono ?_; rintro e w5 ⟨rfl, hw5⟩; subst hw5) | (at_builtin; refine wpList_append1 _ rfl _ _ 32 rfl wR.heap.size 3 (.int .i64 0) 1 8 Tryz.underlying32 infoInt rfl (by decide) _ (il' (orbM S b x)).length _ rfl HST.out.ovo [.int .i64 (x : Int)] 3 _ rfl (by simp) rfl (by simp [Value.oneCell']) (by unfold maxLen; omega) (by omega) HSB.out ?_))
                  intro ov' w4 happ
                  obtain ⟨oa2, oc2, hov2⟩ := own_shape happ.own
                  subst hov2
                  obtain ⟨e1, e2⟩ := HST.out.atOrb happ
                  obtain ⟨mb2, hs2, _⟩ := HST.out.appOrb happ
                  have HS2 := hid_ hs2
                  clear happ hs2 d1 c1 c2
                  go_upto_region 14 with fail
                  obtain ⟨wo, hwo⟩ : ∃ wo, w4.setCell ⟨lb, 1, none⟩ (.slice oa2 ((il' (orbM S b x)).length + 1) oc2) = wo := ⟨_, rfl⟩
                  rw [hwo] at HS2 ⊢
                  clear hwo e1 e2
                  obtain ⟨ra, rc, hrv⟩ := own_shape HS2.out.rvo
                  subst hrv
                  have c2 := HS2.out.lc2
                  have c1 := (EA.out.trans HS2.out.ex).cell HC1.out
                  have E0 : Ex wo wo.drew := (Ex.refl wo).drew
                  have HS5 := hid_ (HS2.out.later E0)
                  have c26 := ((Ex.refl wo).alloc (.cells #[.slice (some ⟨ub, uo, none⟩) n uc] 32)).cell c2
                  have hrl : (repM n S b x).length ≤ 64 := by unfold repM; rw [List.length_map]; have := orbM_len S b x; omega
                  go_region_law ((refine step_append_sl (by rfl) _ _ _ (by rfl) wR.heap.size 32 (.slice none 0 0) 1 24 Tryz.underlying46 infoIntsL rfl (by decide) (.slice ra (repM n S b x).length rc) (repM n S b x).length vals (by rfl) (ownsRow_ex HS2.out.rvo (by repeat (first | exact Ex.refl _ | apply Ex.drew | apply Ex.alloc))) _ 1 [.slice (some ⟨ub, uo, none⟩) n uc] (by rfl) ((Sl.own (own_lit1 wo (.slice (some ⟨ub, uo, none⟩) n uc) 32)).ex (by repeat (first | exact Ex.refl _ | apply Ex.drew))) (by simp [Value.oneCell']) (by unfold maxLen; omega) (by omega) (Nat.le_trans HS5.out.ex.size (by simp)) ?_; intro v6 w6 hown6 hg6 ha6; have HAP := hid_ (show Appd wo.drew w6 wR.heap.size 32 1 (.slice ra (repM n S b x).length rc) v6 (repM n S b x).length vals [.slice (some ⟨ub, uo, none⟩) n uc] from ⟨hown6, ⟨_, hg6⟩, by simpa using ha6, HS5.out.rvo⟩); obtain ⟨k1, k2⟩ := HS5.out.atRep HAP.out; obtain ⟨va, vc6, hv6⟩ := own_shape hown6; subst hv6; clear hown6 hg6 ha6))
                  all_goals
                    have HSI := hid_ (show SI wo.drew (q :: mb2) (.slice (some ⟨ub, uo, none⟩) n uc) (li n (lstP n S b x)) from ⟨by rw [HLP.out]; exact HU.out.ex ((EA.out.trans HS2.out.ex).trans E0), fun _ B e => by
                      injection e with e
                      have e : ub = B := e
                      subst e
                      have hqe := HQE.out
                      have hub := HUB.out
                      have hea := EA.out.size
                      have hws := HS5.out.ex.size
                      refine ⟨fun hm => ?_, by omega⟩
                      rcases List.mem_cons.1 hm with e | e
                      · omega
                      · have := (HS2.out.lo ub e).1
                        omega⟩)
                    have HRS2 := hid_ (HS5.out.appRep HSI.out HAP.out)
                    clear k1 k2 c2 c26
                    go_wp2_with fail
                    go_roundw
                    case rel =>
                      obtain ⟨mb', h1⟩ := HRS2.out
                      first
                      | exact ⟨x + 1, _, _, _, mb', by omega, by omega, by go_num, by rw [HIE.out, HRE.out]; exact hid_ h1.1⟩
                      | ((repeat apply Exists.intro); exact ⟨⟨x + 1, _, _, _, mb', by omega, by omega, by go_num, by rw [HIE.out, HRE.out]; exact hid_ h1.1⟩, rfl⟩)
                    case measure => simp [intOf]; omega
                · have b1 : ((A i b : Int) == (x : Int)) = false := by simp; omega
                  have b2 : (A i b == x) = false := by simpa using hay
                  have HNO := hid_ (show ∀ j, j < i + 1 → ¬ (FixP b (A j) ∧ A j b = x) from fun j hj h => by
                    by_cases e : j = i
                    · subst e; exact hay h.2
                    · exact hno.out j (by omega) h)
                  clear hay hfx hno
                  go_wp2_with (go_at_call 87; refine HFX.out.mono ?_; rintro e w5 ⟨rfl, hw5⟩; subst hw5)
                  go_roundw
                  case rel => first | exact ⟨i + 1, by omega, by go_num, HNO, hls⟩ | ((repeat apply Exists.intro); exact ⟨⟨i + 1, by omega, by go_num, HNO, hls⟩, rfl⟩)
                  case measure => simp [intOf]; omega
              · have hfb : fixB b (A i) = false := Bool.eq_false_iff.2 fun h => hfx ((fixB_iff b (A i)).1 h)
                rw [hfb] at HFX
                have HNO := hid_ (show ∀ j, j < i + 1 → ¬ (FixP b (A j) ∧ A j b = x) from fun j hj h => by
                  by_cases e : j = i
                  · subst e; exact hfx h.1
                  · exact hno.out j (by omega) h)
                clear hfx hfb hno
                go_wp2_with (go_at_call 87; refine HFX.out.mono ?_; rintro e w5 ⟨rfl, hw5⟩; subst hw5)
                go_roundw
                case rel => first | exact ⟨i + 1, by omega, by go_num, HNO, hls⟩ | ((repeat apply Exists.intro); exact ⟨⟨i + 1, by omega, by go_num, HNO, hls⟩, rfl⟩)
                case measure => simp [intOf]; omega
            · obtain rfl : i = m := by omega
              have HOE := hid_ ((orbM_succ S b x).2 (HG.out.none hno.out))
              have HRE := hid_ (show repM n S b (x + 1) = repM n S b x from by unfold repM; rw [HOE.out])
              clear hno
              go_wp2_with fail
              go_roundw
              case rel => first | exact ⟨x + 1, ov, rv, vals, mb, by omega, by omega, by go_num, by rw [HOE.out, HRE.out]; exact hls⟩ | ((repeat apply Exists.intro); exact ⟨⟨x + 1, ov, rv, vals, mb, by omega, by omega, by go_num, by rw [HOE.out, HRE.out]; exact hls⟩, rfl⟩)
              case measure => simp [intOf]; omega
        · obtain rfl : x = n := by omega
          have HST := hid_ hls.out
          obtain ⟨oa, oc, hov⟩ := own_shape HST.out.ovo
          subst hov
          have c1 := HST.out.lc1
          have hcl : (chnK x S b).length ≤ 64 := by have := HCL.out; omega
          have HSB := hid_ HST.out.ex.size
          by_cases h1 : 1 < (il' (orbM S b x)).length
          · have HCE := hid_ (show chnK x S (b + 1) = chnK x S b ++ [⟨b, il' (orbM S b x), repM x S b x⟩] from by
              rw [chnK_succ, if_pos (show 1 < (levB x S b).orb.length from h1)]; rfl)
            have b1 : decide (1 < ((il' (orbM S b x)).length : Int)) = true := by simp; omega
            have b2 : decide (1 < (il' (orbM S b x)).length) = true := by simpa using h1
            obtain ⟨la, lc, hlv⟩ := own_shape HST.out.ch.own
            obtain ⟨ra, rc, hrv⟩ := own_shape HST.out.rvo
            subst hlv hrv
            have l0 := HST.out.lc0
            have l2 := HST.out.lc2
            have o1 := HST.out.oc1
            clear h1 hls
            go_wp2_with (at_builtin; refine wpList_append1 _ rfl _ _ 22 rfl wR.heap.size 56 (.agg #[.int .i64 0, .slice none 0 0, .slice none 0 0]) 3 56 Tryz.underlying22 infoLevel rfl (by decide) _ (chnK x S b).length _ rfl HST.out.ch.own [.int .i64 b, .slice oa (il' (orbM S b x)).length oc, .slice ra (repM x S b x).length rc] 56 _ rfl (by simp) rfl (by simp [Value.oneCell']) (by unfold maxLen; omega) (by omega) HSB.out ?_)
            intro lv2 w4 happ
            obtain ⟨la2, lc2, hlv2⟩ := own_shape happ.own
            subst hlv2
            obtain ⟨e1, e2⟩ := HST.out.atLev happ
            have HK := hid_ (HST.out.keep happ)
            clear happ l0 l2 o1 c1
            go_wp2_with fail
            go_roundw
            case rel =>
              obtain ⟨mb', h1⟩ := HK.out
              first
              | exact ⟨b + 1, _, _, mb', by omega, by go_num, by rw [HCE.out]; exact hid_ h1⟩
              | ((repeat apply Exists.intro); exact ⟨⟨b + 1, _, _, mb', by omega, by go_num, by rw [HCE.out]; exact hid_ h1⟩, rfl⟩)
            case measure => simp [intOf]; omega
          · have HCE := hid_ (show chnK x S (b + 1) = chnK x S b from by
              rw [chnK_succ, if_neg (show ¬ 1 < (levB x S b).orb.length from h1), List.append_nil])
            have b1 : decide (1 < ((il' (orbM S b x)).length : Int)) = false := by simp; omega
            have b2 : decide (1 < (il' (orbM S b x)).length) = false := by simpa using h1
            have HK := hid_ hls.out.drop
            clear h1 hls
            go_wp2_with fail
            go_roundw
            case rel => first | exact ⟨b + 1, lv, os, mb, by omega, by go_num, by rw [HCE.out]; exact HK⟩ | ((repeat apply Exists.intro); exact ⟨⟨b + 1, lv, os, mb, by omega, by go_num, by rw [HCE.out]; exact HK⟩, rfl⟩)
            case measure => simp [intOf]; omega
    · obtain rfl : b = n := by omega
      have o0 := hcs.out.oc0
      have o1 := hcs.out.oc1
      obtain ⟨la, lc, hlv⟩ := own_shape hcs.out.ch.own
      subst hlv
      have q0 := hcs.out.ex.cell Q0.out
      have q1 := hcs.out.ex.cell Q1.out
      have qf0 := hcs.out.ex.frz Q0.out QF0.out
      have qf1 := hcs.out.ex.frz Q1.out QF1.out
      have HCS := hid_ hcs.out
      clear hcs
      go_wp2_with fail
      exact bodyPost_ret (v := .agg #[.int .i64 b, .slice la (chnK b S b).length lc]) (by simp [results, Tryz.results61, go_sem, q0, q1]) rfl ⟨_, rfl, HCS.out.out _ _, ((EA.out.trans HCS.out.ex).setCell (p := ⟨q, 0, none⟩) HQW.out _).setCell (p := ⟨q, 1, none⟩) HQW.out _⟩
end Go.Proofs.YtgfdhclpffakfaaGreat
