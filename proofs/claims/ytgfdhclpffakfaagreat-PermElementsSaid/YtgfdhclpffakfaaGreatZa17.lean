/- Walks of slices.Clone at slices of slices, and of the tower's strip. -/
/- The contracts of slices.SortFunc at ints and of bits.Len, laid at this program by the kit. -/
/- The contract of slices.Sort at ints, laid at this program by the kit. -/
/- slices.Sort on a row of the call's own. -/
import Derived.Shelf.SlSortCmp.Small
import Derived.Shelf.Small.Bits
import Derived.Test.YtgfdhclpffakfaaGreatProg
import Derived.Shelf.Sort.Plain
import Derived.Sort.OwnSortedInts
import Derived.Test.YtgfdhclpffakfaaGreatZa13
import Derived.Test.YtgfdhclpffakfaaGreatZa14
import Derived.Test.YtgfdhclpffakfaaGreatZa16
namespace Go.Proofs.YtgfdhclpffakfaaGreat
set_option linter.unusedVariables false
set_option linter.unusedSimpArgs false
open Go.RowKit

set_option maxRecDepth 100000 in
set_option maxHeartbeats 1000000 in
theorem Clone2_any (w : World) (n : Nat) (c : Nat → Value) (v : Value) (hv : Sl w v n 1 (vs n c)) (hn : 1 ≤ n) (hn2 : n ≤ 1000) (h1 : ∀ j, j < n → (c j).oneCell' = true) :
    Calls Tryz.prog 69 #[v] w fun r w' => ∃ g cap, r = .returned (.slice (some ⟨g, 0, none⟩) n cap) ∧ OwnC w' w.heap.size 32 g n cap c ∧ Ex w w' := by
  have HV := hid_ hv
  obtain ⟨_, a, cap, rfl, s1, s2, s3⟩ := hv
  obtain ⟨b, o, rfl, _⟩ := s3 (by omega)
  have hnil := fun w' => run_eql_slice_nil (P := Tryz.prog) w' 46 32 (some ⟨b, o, none⟩) n cap Tryz.underlying46
  simp only [Option.isNone] at hnil
  have HON := hid_ (show ∀ u ∈ vs n c, u.oneCell' = true from by
    intro u hu
    unfold vs at hu
    obtain ⟨j, hj, rfl⟩ := List.mem_map.1 hu
    exact h1 j (List.mem_range.1 hj))
  clear s3 h1
  go_enter Tryz.func69, Tryz.ntmps69
  go_wp2_with (at_builtin; refine wpList_append_sl _ rfl _ _ 46 rfl w.heap.size 32 (.slice none 0 0) 1 24 Tryz.underlying46 infoIntsL rfl (by decide) _ 0 [] rfl (own_lit0 w 32) (.slice (some ⟨b, o, none⟩) n cap) n (vs n c) rfl (HV.out.ex ((Ex.refl w).alloc _)) HON.out (by unfold maxLen; omega) (by omega) (by simp) ?_)
  intro v1 w1 hown1 hg1 ha1
  have hx1 : Ex w w1 := Ex.grown ((Ex.refl w).alloc _) (own_lit0 w 32) (Nat.le_refl _) hg1
  try simp only [List.nil_append, Nat.zero_add] at hown1
  obtain ⟨g, c2, rfl, hown⟩ := ownC_of hown1 hn
  have HO := hid_ hown
  have HX := hid_ hx1
  clear hown hown1 hg1 ha1 hx1 hnil
  try simp only [Nat.zero_add]
  go_wp2_with fail
  go_ret
  exact ⟨g, c2, rfl, HO.out, HX.out⟩
set_option maxRecDepth 100000 in
set_option maxHeartbeats 2000000 in
theorem strip_any (w : World) {base n tb rb gb : Nat} {rr : Nat → Nat} {gv : Nat → Value} {V : Nat → Nat → Value} {mb : List Nat} {t : Tw} (hm : TwM w base n tb rb gb rr gv V mb t) (hG : GoodT n t) (hn1 : 1 ≤ n) (hn : n ≤ 64)
    (u : Value) (f : Nat → Nat) (b : Nat) (hb : b ≤ n) (hu : ISl w u (li n f)) (hP : IsP n f) :
    Calls Tryz.prog 68 #[.pointer (some ⟨tb, 0, none⟩), u, .int .i64 b] w fun r w' => ∃ v, r = .returned (.tuple #[v, .int .i64 ((stripR n t.R (n - b) b f).2 : Int)]) ∧ Ex w w' := by
  have HM := hid_ hm
  have HG := hid_ hG
  have HU := hid_ hu
  have HP := hid_ hP
  obtain ⟨ua, uc, rfl, _, _, _⟩ := isl_li hu
  obtain ⟨E, hE⟩ : ∃ E, stripR n t.R (n - b) b f = E := ⟨_, rfl⟩
  have HE := hid_ hE
  rw [hE]
  have hG1 : ∀ (a : Option Addr) (m cap : Nat) w', (binOp .eql 32 (.slice a m cap) (.slice none 0 0)).run Tryz.prog w' = .ok (.bool a.isNone) w' := fun a m cap w' => run_eql_slice_nil (P := Tryz.prog) w' 32 3 a m cap Tryz.underlying32
  have HNIL := hid_ hG1
  clear hm hG hu hP hE hG1
  go_enter Tryz.func68, Tryz.ntmps68
  go_wp2_with fail
  go_loopw [1, 2] (fun p' b' wr => ∃ (c : Nat) (h : Nat → Nat) (a : Option Addr) (cap : Nat), c ≤ n ∧ b' = .int .i64 c ∧ p' = .slice a n cap ∧ Hid (ISl wr (.slice a n cap) (li n h)) ∧ Hid (IsP n h) ∧ Hid (stripR n t.R (n - c) c h = E) ∧ Hid (Ex w wr)) (fun _ b' _ => n - (intOf b').toNat)
  case atStart => exact ⟨b, f, ua, uc, hb, rfl, rfl, HU, HP, HE, hid_ (Ex.refl _)⟩
  case round =>
    clear HU HP HE
    obtain ⟨c, h, a, cap, hc, rfl, rfl, hu, hp, he, hx⟩ := hrel
    have c0 := hx.out.cell HM.out.c0
    have c1 := hx.out.cell HM.out.c1
    by_cases hcn : c < n
    · obtain ⟨pb, po, rfl, _, hpc⟩ := isl_li_at hu.out (by omega)
      have hhc := hp.out.lt c hcn
      have d1 := hpc c hcn
      have d2 := hx.out.cell (HM.out.ro c hcn)
      have d3 := hx.out.cell ((HM.out.row c hcn).cell hhc)
      have hrep := HM.out.rep c (h c) hcn hhc
      have i1 : (0 : Int) ≤ (c : Int) := by omega
      have i2 : (c : Int) < (n : Int) := by omega
      have i3 : (0 : Int) ≤ (h c : Int) := by omega
      have i4 : (h c : Int) < (n : Int) := by omega
      cases hR : t.R c (h c) with
      | none =>
        rw [hR] at hrep
        have hrep : V c (h c) = .slice none 0 0 := hrep
        rw [hrep] at d3
        have HEE := hid_ (show E = (h, c) from by
          rw [← he.out, show n - c = n - c - 1 + 1 by omega]
          unfold stripR
          rw [hR])
        have hnil := HNIL.out none 0 0
        simp only [Option.isNone] at hnil
        clear hpc hrep hR he hp
        go_wp2_with fail
        go_quiet (fail)
        go_wp2_with fail
        go_ret2
        refine ⟨.slice (some ⟨pb, po, none⟩) n cap, ?_, hx.out.drewN _⟩
        rw [HEE.out]; rfl
      | some r =>
        rw [hR] at hrep
        have hrep : PV w mb n (V c (h c)) r := hrep
        obtain ⟨_, _, hrP, hrF, hrb⟩ := HG.out.rep _ _ _ hR
        obtain ⟨vb, vo, vc, hV, _, _, _, _⟩ := (hrep.ex hx.out).at_
        have HRS := hid_ (hrep.ex hx.out).sl
        rw [hV] at d3 HRS
        have HEE := hid_ (show stripR n t.R (n - (c + 1)) (c + 1) (thenP h (invP n r)) = E from by
          rw [← he.out, show n - c = n - (c + 1) + 1 by omega]
          conv => rhs; unfold stripR
          rw [hR])
        have hnil := HNIL.out (some ⟨vb, vo, none⟩) n vc
        simp only [Option.isNone] at hnil
        have HRP := hid_ hrP
        have HTP := hid_ (hp.out.comp hrP.inv)
        have HIV := hid_ (fun w1 (hx1 : Ex wr w1) => inverse_any w1 n r _ (HRS.out.ex hx1) (by omega) HRP.out)
        have HTH := hid_ (fun w1 (hx1 : Ex wr w1) z hz => then_any w1 n h (invP n r) _ z (hu.out.ex hx1) hz (by omega) hp.out.lt)
        clear hpc hrep hR he hrP hrF hrb hV
        go_wp2_with fail
        go_quiet (fail)
        have HXA := hid_ ((Ex.refl wr).drewN nq)
        go_wp2_with (first | (go_at_call 43; refine (HIV.out _ HXA.out).mono ?_; rintro e w2 ⟨g2, rfl, hown, hx2⟩; have HI2 := hid_ hown.li; have HX2 := hid_ (HXA.out.trans hx2); clear hown hx2) | (go_at_call 35; refine (HTH.out _ HX2.out _ HI2.out).mono ?_; rintro e w3 ⟨g3, rfl, hown, hx3⟩; have HI3 := hid_ hown.li; have HX3 := hid_ (hx.out.trans (HX2.out.trans hx3)); clear hown hx3))
        go_roundw
        case rel => first | exact ⟨c + 1, thenP h (invP n r), some ⟨g3, 0, none⟩, n, by omega, by go_num, rfl, HI3, HTP, HEE, HX3⟩ | ((repeat apply Exists.intro); exact ⟨⟨c + 1, thenP h (invP n r), some ⟨g3, 0, none⟩, n, by omega, by go_num, rfl, HI3, HTP, HEE, HX3⟩, rfl⟩)
        case measure => simp [intOf]; omega
    · obtain rfl : c = n := by omega
      have HEE := hid_ (show E.2 = c from by
        rw [← he.out, Nat.sub_self]; rfl)
      clear he hp
      go_wp2_with fail
      go_quiet (fail)
      go_wp2_with fail
      go_ret2
      refine ⟨.slice a c cap, ?_, hx.out.drewN _⟩
      rw [HEE.out]; rfl
end Go.Proofs.YtgfdhclpffakfaaGreat
namespace Go.Proofs
open Go.Shelf
def Tryz.sortF_ren : Go.Shelf.Ren := ⟨fun | 6 => 33 | 15 => 59 | 14 => 58 | 28 => 84 | 29 => 85 | 20 => 76 | 21 => 77 | 22 => 78 | 23 => 79 | 24 => 80 | 25 => 81 | 26 => 82 | 27 => 83 | 46 => 99 | 47 => 100 | 48 => 101 | 49 => 102 | 50 => 103 | 57 => 108 | n => n, fun | 22 => 32 | 24 => 3 | 25 => 73 | 3 => 3 | 39 => 97 | 0 => 0 | 53 => 65 | 55 => 41 | 4 => 4 | 46 => 112 | 45 => 111 | 50 => 116 | 5 => 5 | 9 => 9 | 66 => 129 | 70 => 133 | 76 => 137 | 77 => 138 | n => n, fun | n => n⟩
theorem Tryz.sortF : Go.Proofs.SlLaysF.n6 Tryz.prog Tryz.sortF_ren := {
  mixed := by kernel_rfl
  f6 := ⟨Tryz.f33.name, by decide, Tryz.func33.trans (congrArg some (by kernel_rfl))⟩
  f14 := ⟨Tryz.f58.name, by decide, Tryz.func58.trans (congrArg some (by kernel_rfl))⟩
  f15 := Tryz.func59.trans (congrArg some (by kernel_rfl))
  f20 := ⟨Tryz.f76.name, by decide, Tryz.func76.trans (congrArg some (by kernel_rfl))⟩
  f21 := ⟨Tryz.f77.name, by decide, Tryz.func77.trans (congrArg some (by kernel_rfl))⟩
  f22 := ⟨Tryz.f78.name, by decide, Tryz.func78.trans (congrArg some (by kernel_rfl))⟩
  f23 := ⟨Tryz.f79.name, by decide, Tryz.func79.trans (congrArg some (by kernel_rfl))⟩
  f24 := ⟨Tryz.f80.name, by decide, Tryz.func80.trans (congrArg some (by kernel_rfl))⟩
  f25 := ⟨Tryz.f81.name, by decide, Tryz.func81.trans (congrArg some (by kernel_rfl))⟩
  f26 := ⟨Tryz.f82.name, by decide, Tryz.func82.trans (congrArg some (by kernel_rfl))⟩
  f27 := ⟨Tryz.f83.name, by decide, Tryz.func83.trans (congrArg some (by kernel_rfl))⟩
  f28 := Tryz.func84.trans (congrArg some (by kernel_rfl))
  f29 := Tryz.func85.trans (congrArg some (by kernel_rfl))
  f46 := ⟨Tryz.f99.name, by decide, Tryz.func99.trans (congrArg some (by kernel_rfl))⟩
  f47 := Tryz.func100.trans (congrArg some (by kernel_rfl))
  f48 := Tryz.func101.trans (congrArg some (by kernel_rfl))
  f49 := ⟨Tryz.f102.name, by decide, Tryz.func102.trans (congrArg some (by kernel_rfl))⟩
  f50 := ⟨Tryz.f103.name, by decide, Tryz.func103.trans (congrArg some (by kernel_rfl))⟩
  f57 := ⟨Tryz.f108.name, by decide, Tryz.func108.trans (congrArg some (by kernel_rfl))⟩
  t0 := Tryz.underlying0
  a0 := Tryz.isAgg0
  z0 := Tryz.sizeOf0
  v0 := Tryz.zeroValue0
  t3 := Tryz.underlying3
  a3 := Tryz.isAgg3
  z3 := Tryz.sizeOf3
  v3 := Tryz.zeroValue3
  t4 := Tryz.underlying4
  a4 := Tryz.isAgg4
  z4 := Tryz.sizeOf4
  v4 := Tryz.zeroValue4
  t5 := Tryz.underlying5
  a5 := Tryz.isAgg5
  z5 := Tryz.sizeOf5
  v5 := Tryz.zeroValue5
  t9 := Tryz.underlying9
  a9 := Tryz.isAgg9
  z9 := Tryz.sizeOf9
  v9 := Tryz.zeroValue9
  t22 := Tryz.underlying32
  a22 := Tryz.isAgg32
  z22 := Tryz.sizeOf32
  v22 := Tryz.zeroValue32
  a24 := Tryz.isAgg3
  z24 := Tryz.sizeOf3
  t25 := Tryz.underlying73
  a25 := Tryz.isAgg73
  z25 := Tryz.sizeOf73
  v25 := Tryz.zeroValue73
  t39 := Tryz.underlying97
  a39 := Tryz.isAgg97
  z39 := Tryz.sizeOf97
  v39 := Tryz.zeroValue97
  t45 := Tryz.underlying111
  a45 := Tryz.isAgg111
  z45 := Tryz.sizeOf111
  v45 := Tryz.zeroValue111
  t46 := Tryz.underlying112
  a46 := Tryz.isAgg112
  z46 := Tryz.sizeOf112
  v46 := Tryz.zeroValue112
  t50 := Tryz.underlying116
  a50 := Tryz.isAgg116
  z50 := Tryz.sizeOf116
  v50 := Tryz.zeroValue116
  t53 := Tryz.underlying65
  a53 := Tryz.isAgg65
  z53 := Tryz.sizeOf65
  v53 := Tryz.zeroValue65
  t55 := Tryz.underlying41
  a55 := Tryz.isAgg41
  z55 := Tryz.sizeOf41
  v55 := Tryz.zeroValue41
  t66 := Tryz.underlying129
  a66 := Tryz.isAgg129
  z66 := Tryz.sizeOf129
  v66 := Tryz.zeroValue129
  t70 := Tryz.underlying133
  a70 := Tryz.isAgg133
  z70 := Tryz.sizeOf133
  v70 := Tryz.zeroValue133
  t76 := Tryz.underlying137
  a76 := Tryz.isAgg137
  z76 := Tryz.sizeOf137
  v76 := Tryz.zeroValue137
  t77 := Tryz.underlying138
  a77 := Tryz.isAgg138
  z77 := Tryz.sizeOf138
  v77 := Tryz.zeroValue138 }
def Tryz.lays125_ren : Go.Shelf.Ren := ⟨fun | 125 => 59 | 128 => 84 | 129 => 85 | n => n, fun | 46 => 97 | 3 => 3 | 51 => 65 | 53 => 41 | 4 => 4 | 5 => 5 | 9 => 9 | n => n, fun | n => n⟩
theorem Tryz.lays125 : Go.Proofs.Lays.n125 Tryz.prog Tryz.lays125_ren := {
  mixed := by kernel_rfl
  f125 := Tryz.func59.trans (congrArg some (by kernel_rfl))
  f128 := Tryz.func84.trans (congrArg some (by kernel_rfl))
  f129 := Tryz.func85.trans (congrArg some (by kernel_rfl))
  t3 := Tryz.underlying3
  a3 := Tryz.isAgg3
  z3 := Tryz.sizeOf3
  v3 := Tryz.zeroValue3
  t4 := Tryz.underlying4
  a4 := Tryz.isAgg4
  z4 := Tryz.sizeOf4
  v4 := Tryz.zeroValue4
  t5 := Tryz.underlying5
  a5 := Tryz.isAgg5
  z5 := Tryz.sizeOf5
  v5 := Tryz.zeroValue5
  t9 := Tryz.underlying9
  a9 := Tryz.isAgg9
  z9 := Tryz.sizeOf9
  v9 := Tryz.zeroValue9
  t46 := Tryz.underlying97
  a46 := Tryz.isAgg97
  z46 := Tryz.sizeOf97
  v46 := Tryz.zeroValue97
  t51 := Tryz.underlying65
  a51 := Tryz.isAgg65
  z51 := Tryz.sizeOf65
  v51 := Tryz.zeroValue65
  t53 := Tryz.underlying41
  a53 := Tryz.isAgg41
  z53 := Tryz.sizeOf41
  v53 := Tryz.zeroValue41 }
theorem Tryz.bits_Len (x : Int) (w : World) (h0 : 0 ≤ x) (h1 : x ≤ 18446744073709551615) :
    Calls Tryz.prog 59 #[.int .u64 x] w fun e w' => e = .returned (.int .i64 (Lib.bitLen x.toNat)) ∧ w' = w := Any.bits_Len Tryz.lays125 x w h0 h1
end Go.Proofs
namespace Go.Proofs
open Go.Shelf
def Tryz.lays189_ren : Go.Shelf.Ren := ⟨fun | 189 => 45 | 125 => 59 | 257 => 67 | 128 => 84 | 129 => 85 | 294 => 90 | 295 => 91 | 296 => 92 | 297 => 93 | 298 => 94 | 299 => 95 | 216 => 96 | 300 => 97 | 301 => 98 | 328 => 104 | 329 => 100 | 330 => 101 | 331 => 105 | 332 => 106 | 215 => 107 | 343 => 109 | n => n, fun | 28 => 32 | 3 => 3 | 46 => 97 | 0 => 0 | 51 => 65 | 53 => 41 | 4 => 4 | 183 => 112 | 182 => 111 | 131 => 116 | 5 => 5 | 9 => 9 | 218 => 129 | 222 => 133 | 228 => 137 | 229 => 138 | n => n, fun | n => n⟩
theorem Tryz.lays189 : Go.Proofs.Lays.n189 Tryz.prog Tryz.lays189_ren := {
  mixed := by kernel_rfl
  f125 := Tryz.func59.trans (congrArg some (by kernel_rfl))
  f128 := Tryz.func84.trans (congrArg some (by kernel_rfl))
  f129 := Tryz.func85.trans (congrArg some (by kernel_rfl))
  f189 := Tryz.func45.trans (congrArg some (by kernel_rfl))
  f215 := Tryz.func107.trans (congrArg some (by kernel_rfl))
  f216 := Tryz.func96.trans (congrArg some (by kernel_rfl))
  f257 := Tryz.func67.trans (congrArg some (by kernel_rfl))
  f294 := Tryz.func90.trans (congrArg some (by kernel_rfl))
  f295 := Tryz.func91.trans (congrArg some (by kernel_rfl))
  f296 := Tryz.func92.trans (congrArg some (by kernel_rfl))
  f297 := Tryz.func93.trans (congrArg some (by kernel_rfl))
  f298 := Tryz.func94.trans (congrArg some (by kernel_rfl))
  f299 := Tryz.func95.trans (congrArg some (by kernel_rfl))
  f300 := Tryz.func97.trans (congrArg some (by kernel_rfl))
  f301 := Tryz.func98.trans (congrArg some (by kernel_rfl))
  f328 := Tryz.func104.trans (congrArg some (by kernel_rfl))
  f329 := Tryz.func100.trans (congrArg some (by kernel_rfl))
  f330 := Tryz.func101.trans (congrArg some (by kernel_rfl))
  f331 := Tryz.func105.trans (congrArg some (by kernel_rfl))
  f332 := Tryz.func106.trans (congrArg some (by kernel_rfl))
  f343 := Tryz.func109.trans (congrArg some (by kernel_rfl))
  t0 := Tryz.underlying0
  a0 := Tryz.isAgg0
  z0 := Tryz.sizeOf0
  v0 := Tryz.zeroValue0
  t3 := Tryz.underlying3
  a3 := Tryz.isAgg3
  z3 := Tryz.sizeOf3
  v3 := Tryz.zeroValue3
  t4 := Tryz.underlying4
  a4 := Tryz.isAgg4
  z4 := Tryz.sizeOf4
  v4 := Tryz.zeroValue4
  t5 := Tryz.underlying5
  a5 := Tryz.isAgg5
  z5 := Tryz.sizeOf5
  v5 := Tryz.zeroValue5
  t9 := Tryz.underlying9
  a9 := Tryz.isAgg9
  z9 := Tryz.sizeOf9
  v9 := Tryz.zeroValue9
  t28 := Tryz.underlying32
  a28 := Tryz.isAgg32
  z28 := Tryz.sizeOf32
  v28 := Tryz.zeroValue32
  t46 := Tryz.underlying97
  a46 := Tryz.isAgg97
  z46 := Tryz.sizeOf97
  v46 := Tryz.zeroValue97
  t51 := Tryz.underlying65
  a51 := Tryz.isAgg65
  z51 := Tryz.sizeOf65
  v51 := Tryz.zeroValue65
  t53 := Tryz.underlying41
  a53 := Tryz.isAgg41
  z53 := Tryz.sizeOf41
  v53 := Tryz.zeroValue41
  t131 := Tryz.underlying116
  a131 := Tryz.isAgg116
  z131 := Tryz.sizeOf116
  v131 := Tryz.zeroValue116
  t182 := Tryz.underlying111
  a182 := Tryz.isAgg111
  z182 := Tryz.sizeOf111
  v182 := Tryz.zeroValue111
  t183 := Tryz.underlying112
  a183 := Tryz.isAgg112
  z183 := Tryz.sizeOf112
  v183 := Tryz.zeroValue112
  t218 := Tryz.underlying129
  a218 := Tryz.isAgg129
  z218 := Tryz.sizeOf129
  v218 := Tryz.zeroValue129
  t222 := Tryz.underlying133
  a222 := Tryz.isAgg133
  z222 := Tryz.sizeOf133
  v222 := Tryz.zeroValue133
  t228 := Tryz.underlying137
  a228 := Tryz.isAgg137
  z228 := Tryz.sizeOf137
  v228 := Tryz.zeroValue137
  t229 := Tryz.underlying138
  a229 := Tryz.isAgg138
  z229 := Tryz.sizeOf138
  v229 := Tryz.zeroValue138 }
open Go.Sort Go.RowKit in
theorem Tryz.slices_Sort_int (blk off cap : Nat) (zs : List Int) (w : World) (hH : Holds (Value.int .i64) w blk off zs.toArray) (hblk : blk < w.heap.size) (hsz : zs.length < 4611686018427387904) :
    Calls Tryz.prog 45 #[.slice (some ⟨blk, off, none⟩) zs.length cap] w fun e w' =>
      e = .returned (.tuple #[]) ∧ ∃ n os, w' = grow (putRow (Value.int .i64) (Sort.ahead w n) blk off (zs.mergeSort fun x y => decide (x ≤ y)).toArray) os := Any.slices_Sort_int Tryz.lays189 blk off cap zs w hH hblk hsz
end Go.Proofs
namespace Go.Proofs.YtgfdhclpffakfaaGreat
set_option linter.unusedVariables false
set_option linter.unusedSimpArgs false
open Go.RowKit

theorem sortOK : SortOK := by
  intro w base v l hv h1 h2
  rcases hv.2 with ⟨_, h0⟩ | ⟨g, cap, cur, rfl, hbase, hb, c1, c2, c3, c4⟩
  · omega
  · have c4' : cur.toList.take l.length = l.map (Value.int .i64) := by simpa [ints] using c4
    have hg : g < w.heap.size := (Array.getElem?_eq_some_iff.1 hb).1
    refine (Tryz.slices_Sort_int g 0 cap l w (holds_of_blockI hb c4') hg (by omega)).mono ?_
    rintro e w' ⟨rfl, n, os, rfl⟩
    have hl : (l.mergeSort fun x y => decide (x ≤ y)).length = l.length := List.length_mergeSort _
    exact ⟨rfl, ownsRow_sortedI hl hbase hb c1 c2 c3, grownBy_sortedI _⟩
end Go.Proofs.YtgfdhclpffakfaaGreat
