/- The reference's Same, Gens, Size, Sift, Has, Few at chains. -/
import Derived.Test.YtgfdhclpffakfaaGreatZa30
namespace Go.Proofs.YtgfdhclpffakfaaGreat
set_option linter.unusedVariables false
set_option linter.unusedSimpArgs false
open Go.RowKit

def BoolR (P : Prop) (r : Ending) : Prop := ∃ b : Bool, r = .returned (.bool b) ∧ (b = true ↔ P)
theorem boolR_no {P : Prop} (h : ¬ P) : BoolR P (.returned (.bool false)) := ⟨false, rfl, ⟨fun h => (by cases h), fun k => absurd k h⟩⟩
theorem boolR_yes {P : Prop} (h : P) : BoolR P (.returned (.bool true)) := ⟨true, rfl, ⟨fun _ => h, fun _ => rfl⟩⟩
theorem lev_ext {l k : Lv} (h1 : l.pt = k.pt) (h2 : l.orb = k.orb) (h3 : l.reps = k.reps) : l = k := by
  cases l; cases k
  simp only at h1 h2 h3
  rw [h1, h2, h3]
set_option maxRecDepth 100000 in
set_option maxHeartbeats 4000000 in
theorem rSame2_any (w : World) (d1 d2 : Int) (L K : List Lv) (lv kv : Value) (hL : LSl w lv L) (hK : LSl w kv K) :
    Calls Tryz.prog 25 #[.agg #[.int .i64 d1, lv], .agg #[.int .i64 d2, kv]] w fun r w' => BoolR (d1 = d2 ∧ L = K) r ∧ Ex w w' := by
  obtain ⟨b0, b1, e0⟩ := boxCh_facts w d1 lv
  obtain ⟨f0, f1, e1⟩ := boxCh_facts (w.alloc (.cells #[.int .i64 d1, lv] 24)) d2 kv
  have b0 := e1.cell b0
  have b1 := e1.cell b1
  have hsz : (w.alloc (.cells #[.int .i64 d1, lv] 24)).heap.size = w.heap.size + 1 := by simp
  rw [hsz] at f0 f1
  obtain ⟨za, zc, rfl, z1, z2, z3⟩ := (hL.ex (e0.trans e1)).open3
  obtain ⟨ya, yc, rfl, y1, y2, y3⟩ := (hK.ex (e0.trans e1)).open3
  unfold maxLen at z2 y2
  have Z3 := hid_ z3
  have Y3 := hid_ y3
  have HE0 := hid_ (e0.trans e1)
  clear z3 y3 hL hK e0 e1 hsz
  by_cases hd : d1 = d2
  · subst hd
    have hdb : (d1 != d1) = false := by simp
    by_cases hlen : L.length = K.length
    · have hlb : ((L.length : Int) != (K.length : Int)) = false := by simp; omega
      have HLN := hid_ hlen
      clear hlen
      go_enter Tryz.func25, Tryz.ntmps25
      go_wp2_with fail
      obtain ⟨q, hq⟩ : ∃ q, w.heap.size = q := ⟨_, rfl⟩
      rw [hq] at b0 b1 f0 f1
      try simp only [hq]
      clear hq
      generalize (w.alloc (.cells #[.int .i64 d1, .slice za L.length zc] 24)).alloc (.cells #[.int .i64 d1, .slice ya K.length yc] 24) = w1 at *
      have B1 := hid_ b1
      have F1 := hid_ f1
      clear b0 b1 f0 f1
      go_loopw [5] (fun j' wr => ∃ (j : Nat), j ≤ L.length ∧ j' = .int .i64 j ∧ Hid (∀ i, i < j → L[i]? = K[i]?) ∧ Hid (Ex w1 wr)) (fun j' _ => L.length - (intOf j').toNat)
      case atStart => exact ⟨0, by omega, rfl, hid_ (fun i h => by omega), hid_ (Ex.refl _)⟩
      case round =>
        obtain ⟨j, hj, rfl, hall, hex⟩ := hrel
        have b1 := hex.out.cell B1.out
        have f1 := hex.out.cell F1.out
        by_cases hjl : j < L.length
        · obtain ⟨l, hl⟩ : ∃ l, L[j]? = some l := ⟨_, List.getElem?_eq_getElem hjl⟩
          have hjk : j < K.length := by have := HLN.out; omega
          obtain ⟨k, hk⟩ : ∃ k, K[j]? = some k := ⟨_, List.getElem?_eq_getElem hjk⟩
          obtain ⟨zb, zo, rfl, hzc⟩ := Z3.out (by omega)
          obtain ⟨yb, yo, rfl, hyc⟩ := Y3.out (by omega)
          obtain ⟨u, r, c0, c1, c2, hu, hr⟩ := hzc j l hl
          obtain ⟨v, s, g0, g1, g2, hv, hs⟩ := hyc j k hk
          have c0 := hex.out.cell c0
          have c1 := hex.out.cell c1
          have c2 := hex.out.cell c2
          have g0 := hex.out.cell g0
          have g1 := hex.out.cell g1
          have g2 := hex.out.cell g2
          obtain ⟨oa, oc, rfl, _, _, _⟩ := hu.open
          obtain ⟨ra, rc, rfl, _, _, _⟩ := hr.open
          obtain ⟨pa, pc, rfl, _, _, _⟩ := hv.open
          obtain ⟨sa, sc, rfl, _, _, _⟩ := hs.open
          have i1 : (0 : Int) ≤ (j : Int) := by omega
          have i2 : (j : Int) < (L.length : Int) := by omega
          have i3 : (j : Int) < (K.length : Int) := by omega
          obtain ⟨p, hp⟩ : ∃ p, l.pt = p := ⟨_, rfl⟩
          rw [hp] at c0
          obtain ⟨t, ht⟩ : ∃ t, k.pt = t := ⟨_, rfl⟩
          rw [ht] at g0
          have HU := hid_ (hu.ex hex.out)
          have HR := hid_ (hr.ex hex.out)
          have HV := hid_ (hv.ex hex.out)
          have HS := hid_ (hs.ex hex.out)
          have HLJ := hid_ hl
          have HKJ := hid_ hk
          have HPL := hid_ hp
          have HPK := hid_ ht
          clear hl hk hp ht hu hr hv hs hzc hyc
          have b1x := fun o => ((Ex.refl wr).alloc o).cell b1
          have b1y := fun o o2 => (((Ex.refl wr).alloc o).alloc o2).cell b1
          have f1x := fun o => ((Ex.refl wr).alloc o).cell f1
          have f1y := fun o o2 => (((Ex.refl wr).alloc o).alloc o2).cell f1
          have c0x := fun o => ((Ex.refl wr).alloc o).cell c0
          have c0y := fun o o2 => (((Ex.refl wr).alloc o).alloc o2).cell c0
          have c1x := fun o => ((Ex.refl wr).alloc o).cell c1
          have c1y := fun o o2 => (((Ex.refl wr).alloc o).alloc o2).cell c1
          have c2x := fun o => ((Ex.refl wr).alloc o).cell c2
          have c2y := fun o o2 => (((Ex.refl wr).alloc o).alloc o2).cell c2
          have g0x := fun o => ((Ex.refl wr).alloc o).cell g0
          have g0y := fun o o2 => (((Ex.refl wr).alloc o).alloc o2).cell g0
          have g1x := fun o => ((Ex.refl wr).alloc o).cell g1
          have g1y := fun o o2 => (((Ex.refl wr).alloc o).alloc o2).cell g1
          have g2x := fun o => ((Ex.refl wr).alloc o).cell g2
          have g2y := fun o o2 => (((Ex.refl wr).alloc o).alloc o2).cell g2
          go_upto_region 6 with fail
          go_cut [6, 7] from 29 to 59 (fun s6 s7 wx => ∃ B1 B2 : Nat, s6 = .pointer (some ⟨B1, 0, none⟩) ∧ s7 = .pointer (some ⟨B2, 0, none⟩) ∧ Hid (wx.cell? ⟨B1, 0, none⟩ = some (.int .i64 p) ∧ wx.cell? ⟨B1, 1, none⟩ = some (.slice oa l.orb.length oc) ∧ wx.cell? ⟨B1, 2, none⟩ = some (.slice ra l.reps.length rc)) ∧ Hid (wx.cell? ⟨B2, 0, none⟩ = some (.int .i64 t) ∧ wx.cell? ⟨B2, 1, none⟩ = some (.slice pa k.orb.length pc) ∧ wx.cell? ⟨B2, 2, none⟩ = some (.slice sa k.reps.length sc)) ∧ Hid (Ex wr wx))
          case first =>
            go_region
            all_goals go_wp2_with fail
            all_goals go_meet
            all_goals exact ⟨_, _, rfl, rfl, hid_ ⟨by simp, by simp, by simp⟩, hid_ ⟨by simp, by simp, by simp⟩, hid_ (((Ex.refl wr).alloc _).alloc _).drew⟩
          case rest =>
            obtain ⟨B1, B2, rfl, rfl, hA, hB, hxc⟩ := hcut
            clear b1 f1 c0 c1 c2 g0 g1 g2 b1x b1y f1x f1y c0x c0y c1x c1y c2x c2y g0x g0y g1x g1y g2x g2y
            obtain ⟨a0, a1, a2⟩ := hA.out
            obtain ⟨g0, g1, g2⟩ := hB.out
            have HNO := hid_ (show (L[j]? ≠ K[j]?) → ¬ (L = K) from fun h e => h (by rw [e]))
            by_cases hpt : p = t
            · subst hpt
              have hpb : (p != p) = false := by simp
              have A2 := hid_ a2
              have G2 := hid_ g2
              have hE1 := SameInts_any wc l.orb k.orb _ _ (HU.out.ex hxc.out) (HV.out.ex hxc.out)
              by_cases hor : l.orb = k.orb
              · rw [decide_eq_true hor] at hE1
                have HE1 := hid_ hE1
                clear hE1
                by_cases hre : l.reps = k.reps
                · have HE := hid_ (show L[j]? = K[j]? from by
                    rw [HLJ.out, HKJ.out, lev_ext (HPL.out.trans HPK.out.symm) hor hre])
                  have HALL := hid_ (show ∀ i, i < j + 1 → L[i]? = K[i]? from fun i hi => by
                    by_cases e : i = j
                    · subst e; exact HE.out
                    · exact hall.out i (by omega))
                  have HRD := hid_ (decide_eq_true hre)
                  clear hor hre hall
                  go_wp2_with (first | (go_at_call 20; refine HE1.out.mono ?_; rintro e w6 ⟨rfl, n6, hw6⟩; have X6 := (show Ex wc w6 from by rw [hw6]; exact (Ex.refl _).drewN n6); have a2 := X6.cell A2.out; have g2 := X6.cell G2.out; have HE2 := SameRows_any w6 l.reps k.reps _ _ ((HR.out.ex hxc.out).ex X6) ((HS.out.ex hxc.out).ex X6); rw [HRD.out] at HE2; have HE2 := hid_ HE2; have HX6 := hid_ X6; clear hw6 X6) | (go_at_call 21; refine HE2.out.mono ?_; rintro e w7 ⟨rfl, n7, hw7⟩; have HX7 := hid_ (HX6.out.trans (show Ex w6 w7 from by rw [hw7]; exact (Ex.refl w6).drewN n7)); clear hw7))
                  go_roundw
                  case rel => exact ⟨j + 1, by omega, by go_num, HALL, hid_ (hex.out.trans (hxc.out.trans HX7.out))⟩
                  case measure => simp [intOf]; omega
                · have HN := hid_ (HNO.out (by
                    rw [HLJ.out, HKJ.out]
                    intro e
                    injection e with e
                    exact hre (by rw [e])))
                  have HRD := hid_ (decide_eq_false hre)
                  clear hor hre hall
                  go_wp2_with (first | (go_at_call 20; refine HE1.out.mono ?_; rintro e w6 ⟨rfl, n6, hw6⟩; have X6 := (show Ex wc w6 from by rw [hw6]; exact (Ex.refl _).drewN n6); have a2 := X6.cell A2.out; have g2 := X6.cell G2.out; have HE2 := SameRows_any w6 l.reps k.reps _ _ ((HR.out.ex hxc.out).ex X6) ((HS.out.ex hxc.out).ex X6); rw [HRD.out] at HE2; have HE2 := hid_ HE2; have HX6 := hid_ X6; clear hw6 X6) | (go_at_call 21; refine HE2.out.mono ?_; rintro e w7 ⟨rfl, n7, hw7⟩; have HX7 := hid_ (HX6.out.trans (show Ex w6 w7 from by rw [hw7]; exact (Ex.refl w6).drewN n7)); clear hw7))
                  go_ret
                  exact ⟨boolR_no (by first | exact HN.out | exact fun h => HN.out h.2), HE0.out.trans (hex.out.trans (hxc.out.trans HX7.out))⟩
              · have HN := hid_ (HNO.out (by
                  rw [HLJ.out, HKJ.out]
                  intro e
                  injection e with e
                  exact hor (by rw [e])))
                rw [decide_eq_false hor] at hE1
                have HE1 := hid_ hE1
                clear hE1 hor hall
                go_wp2_with (go_at_call 20; refine HE1.out.mono ?_; rintro e w6 ⟨rfl, n6, hw6⟩; have HX6 := hid_ (show Ex wc w6 from by rw [hw6]; exact (Ex.refl _).drewN n6); clear hw6)
                go_ret
                exact ⟨boolR_no (by first | exact HN.out | exact fun h => HN.out h.2), HE0.out.trans (hex.out.trans (hxc.out.trans HX6.out))⟩
            · have hpb : (p != t) = true := by simpa using hpt
              have HN := hid_ (HNO.out (by
                rw [HLJ.out, HKJ.out]
                intro e
                injection e with e
                have e1 := HPL.out
                have e2 := HPK.out
                exact hpt (by rw [← e1, ← e2, e])))
              clear hpt
              go_wp2_with fail
              go_ret
              exact ⟨boolR_no (by first | exact HN.out | exact fun h => HN.out h.2), HE0.out.trans (hex.out.trans hxc.out)⟩
        · obtain rfl : j = L.length := by omega
          have HR := hid_ (show L = K from levs_eq HLN.out hall.out)
          go_wp2_with fail
          go_ret
          exact ⟨boolR_yes (by first | exact HR.out | exact ⟨trivial, HR.out⟩ | exact ⟨rfl, HR.out⟩), HE0.out.trans hex.out⟩
    · have hlb : ((L.length : Int) != (K.length : Int)) = true := by simp; omega
      have HN := hid_ (show ¬ L = K from fun e => hlen (by rw [e]))
      clear hlen
      go_enter Tryz.func25, Tryz.ntmps25
      go_wp2_with fail
      go_ret
      exact ⟨boolR_no (by first | exact HN.out | exact fun h => HN.out h.2), HE0.out⟩
  · have hdb : (d1 != d2) = true := by simpa using hd
    have HN := hid_ (show ¬ (d1 = d2 ∧ L = K) from fun ⟨e, _⟩ => hd e)
    clear hd
    go_enter Tryz.func25, Tryz.ntmps25
    go_wp2_with fail
    go_ret
    exact ⟨boolR_no HN.out, HE0.out⟩
end Go.Proofs.YtgfdhclpffakfaaGreat
