/- Walks of slices.Clone at slices of slices, and of the tower's strip. -/
import Derived.Test.YtgfdhclpffakfaaPmW
import Derived.Test.YtgfdhclpffakfaaPmH
namespace Go.Proofs.Ytgfdhclpffakfaa
set_option linter.unusedVariables false
set_option linter.unusedSimpArgs false
open Go.RowKit

set_option maxRecDepth 100000 in
set_option maxHeartbeats 1000000 in
theorem Clone2_any (w : World) (n : Nat) (c : Nat → Value) (v : Value) (hv : Sl w v n 1 (vs n c)) (hn : 1 ≤ n) (hn2 : n ≤ 1000) (h1 : ∀ j, j < n → (c j).oneCell' = true) :
    Calls Try.prog 84 #[v] w fun r w' => ∃ g cap, r = .returned (.slice (some ⟨g, 0, none⟩) n cap) ∧ OwnC w' w.heap.size 22 g n cap c ∧ Ex w w' := by
  have HV := hid_ hv
  obtain ⟨_, a, cap, rfl, s1, s2, s3⟩ := hv
  obtain ⟨b, o, rfl, _⟩ := s3 (by omega)
  have hnil := fun w' => run_eql_slice_nil (P := Try.prog) w' 28 22 (some ⟨b, o, none⟩) n cap Try.underlying28
  simp only [Option.isNone] at hnil
  have HON := hid_ (show ∀ u ∈ vs n c, u.oneCell' = true from by
    intro u hu
    unfold vs at hu
    obtain ⟨j, hj, rfl⟩ := List.mem_map.1 hu
    exact h1 j (List.mem_range.1 hj))
  clear s3 h1
  go_enter Try.func84, Try.ntmps84
  go_wp2_with (at_builtin; refine wpList_append_sl _ rfl _ _ 28 rfl w.heap.size 22 (.slice none 0 0) 1 24 Try.underlying28 infoIntsL rfl (by decide) _ 0 [] rfl (own_lit0 w 22) (.slice (some ⟨b, o, none⟩) n cap) n (vs n c) rfl (HV.out.ex ((Ex.refl w).alloc _)) HON.out (by unfold maxLen; omega) (by omega) (by simp) ?_)
  intro v1 w1 hown1 hg1 ha1
  have hx1 : Ex w w1 := Ex.grown ((Ex.refl w).alloc _) (own_lit0 w 22) (Nat.le_refl _) hg1
  try simp only [List.nil_append, Nat.zero_add] at hown1
  obtain ⟨g, c2, rfl, hown⟩ := ownC_of hown1 hn
  have HO := hid_ hown
  have HX := hid_ hx1
  clear hown hown1 hg1 ha1 hx1 hnil
  try simp only [Nat.zero_add]
  go_wp2_with fail
  go_ret
  exact ⟨g, c2, rfl, HO.out, HX.out⟩

set_option maxRecDepth 100000 in
set_option maxHeartbeats 2000000 in
theorem strip_any (w : World) {base n tb rb gb : Nat} {rr : Nat → Nat} {gv : Nat → Value} {V : Nat → Nat → Value} {mb : List Nat} {t : Tw} (hm : TwM w base n tb rb gb rr gv V mb t) (hG : GoodT n t) (hn1 : 1 ≤ n) (hn : n ≤ 64)
    (u : Value) (f : Nat → Nat) (b : Nat) (hb : b ≤ n) (hu : ISl w u (li n f)) (hP : IsP n f) :
    Calls Try.prog 83 #[.pointer (some ⟨tb, 0, none⟩), u, .int .i64 b] w fun r w' => ∃ v, r = .returned (.tuple #[v, .int .i64 ((stripR n t.R (n - b) b f).2 : Int)]) ∧ Ex w w' := by
  have HM := hid_ hm
  have HG := hid_ hG
  have HU := hid_ hu
  have HP := hid_ hP
  obtain ⟨ua, uc, rfl, _, _, _⟩ := isl_li hu
  obtain ⟨E, hE⟩ : ∃ E, stripR n t.R (n - b) b f = E := ⟨_, rfl⟩
  have HE := hid_ hE
  rw [hE]
  have hG1 : ∀ (a : Option Addr) (m cap : Nat) w', (binOp .eql 22 (.slice a m cap) (.slice none 0 0)).run Try.prog w' = .ok (.bool a.isNone) w' := fun a m cap w' => run_eql_slice_nil (P := Try.prog) w' 22 3 a m cap Try.underlying22
  have HNIL := hid_ hG1
  clear hm hG hu hP hE hG1
  go_enter Try.func83, Try.ntmps83
  go_wp2_with fail
  go_loopw [1, 2] (fun p' b' wr => ∃ (c : Nat) (h : Nat → Nat) (a : Option Addr) (cap : Nat), c ≤ n ∧ b' = .int .i64 c ∧ p' = .slice a n cap ∧ Hid (ISl wr (.slice a n cap) (li n h)) ∧ Hid (IsP n h) ∧ Hid (stripR n t.R (n - c) c h = E) ∧ Hid (Ex w wr)) (fun _ b' _ => n - (intOf b').toNat)
  case atStart => exact ⟨b, f, ua, uc, hb, rfl, rfl, HU, HP, HE, hid_ (Ex.refl _)⟩
  case round =>
    clear HU HP HE
    obtain ⟨c, h, a, cap, hc, rfl, rfl, hu, hp, he, hx⟩ := hrel
    have c0 := hx.out.cell HM.out.c0
    have c1 := hx.out.cell HM.out.c1
    by_cases hcn : c < n
    · obtain ⟨pb, po, rfl, _, hpc⟩ := isl_li_at hu.out (by omega)
      have hhc := hp.out.lt c hcn
      have d1 := hpc c hcn
      have d2 := hx.out.cell (HM.out.ro c hcn)
      have d3 := hx.out.cell ((HM.out.row c hcn).cell hhc)
      have hrep := HM.out.rep c (h c) hcn hhc
      have i1 : (0 : Int) ≤ (c : Int) := by omega
      have i2 : (c : Int) < (n : Int) := by omega
      have i3 : (0 : Int) ≤ (h c : Int) := by omega
      have i4 : (h c : Int) < (n : Int) := by omega
      cases hR : t.R c (h c) with
      | none =>
        rw [hR] at hrep
        have hrep : V c (h c) = .slice none 0 0 := hrep
        rw [hrep] at d3
        have HEE := hid_ (show E = (h, c) from by
          rw [← he.out, show n - c = n - c - 1 + 1 by omega]
          unfold stripR
          rw [hR])
        have hnil := HNIL.out none 0 0
        simp only [Option.isNone] at hnil
        clear hpc hrep hR he hp
        go_wp2_with fail
        go_quiet (fail)
        go_wp2_with fail
        go_ret2
        refine ⟨.slice (some ⟨pb, po, none⟩) n cap, ?_, hx.out.drewN _⟩
        rw [HEE.out]; rfl
      | some r =>
        rw [hR] at hrep
        have hrep : PV w mb n (V c (h c)) r := hrep
        obtain ⟨_, _, hrP, hrF, hrb⟩ := HG.out.rep _ _ _ hR
        obtain ⟨vb, vo, vc, hV, _, _, _, _⟩ := (hrep.ex hx.out).at_
        have HRS := hid_ (hrep.ex hx.out).sl
        rw [hV] at d3 HRS
        have HEE := hid_ (show stripR n t.R (n - (c + 1)) (c + 1) (thenP h (invP n r)) = E from by
          rw [← he.out, show n - c = n - (c + 1) + 1 by omega]
          conv => rhs; unfold stripR
          rw [hR])
        have hnil := HNIL.out (some ⟨vb, vo, none⟩) n vc
        simp only [Option.isNone] at hnil
        have HRP := hid_ hrP
        have HTP := hid_ (hp.out.comp hrP.inv)
        have HIV := hid_ (fun w1 (hx1 : Ex wr w1) => inverse_any w1 n r _ (HRS.out.ex hx1) (by omega) HRP.out)
        have HTH := hid_ (fun w1 (hx1 : Ex wr w1) z hz => then_any w1 n h (invP n r) _ z (hu.out.ex hx1) hz (by omega) hp.out.lt)
        clear hpc hrep hR he hrP hrF hrb hV
        go_wp2_with fail
        go_quiet (fail)
        have HXA := hid_ ((Ex.refl wr).drewN nq)
        go_wp2_with (first | (go_at_call 55; refine (HIV.out _ HXA.out).mono ?_; rintro e w2 ⟨g2, rfl, hown, hx2⟩; have HI2 := hid_ hown.li; have HX2 := hid_ (HXA.out.trans hx2); clear hown hx2) | (go_at_call 50; refine (HTH.out _ HX2.out _ HI2.out).mono ?_; rintro e w3 ⟨g3, rfl, hown, hx3⟩; have HI3 := hid_ hown.li; have HX3 := hid_ (hx.out.trans (HX2.out.trans hx3)); clear hown hx3))
        go_roundw
        case rel => first | exact ⟨c + 1, thenP h (invP n r), some ⟨g3, 0, none⟩, n, by omega, by go_num, rfl, HI3, HTP, HEE, HX3⟩ | ((repeat apply Exists.intro); exact ⟨⟨c + 1, thenP h (invP n r), some ⟨g3, 0, none⟩, n, by omega, by go_num, rfl, HI3, HTP, HEE, HX3⟩, rfl⟩)
        case measure => simp [intOf]; omega
    · obtain rfl : c = n := by omega
      have HEE := hid_ (show E.2 = c from by
        rw [← he.out, Nat.sub_self]; rfl)
      clear he hp
      go_wp2_with fail
      go_quiet (fail)
      go_wp2_with fail
      go_ret2
      refine ⟨.slice a c cap, ?_, hx.out.drewN _⟩
      rw [HEE.out]; rfl
end Go.Proofs.Ytgfdhclpffakfaa
