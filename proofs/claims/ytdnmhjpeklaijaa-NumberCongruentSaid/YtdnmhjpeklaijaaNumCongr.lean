/- The walk of the law NumberCongruent. -/
import Derived.Test.YtdnmhjpeklaijaaNumK
import Derived.Test.YtdnmhjpeklaijaaNumU
import Derived.Test.YtdnmhjpeklaijaaNumN
namespace Go.Proofs.Ytdnmhjpeklaijaa
set_option linter.unusedVariables false
set_option linter.unusedSimpArgs false
open Go.RowKit

/-- What the law's flag says after k moduli. -/
def OtOk (z n x : Int) (ms : List Int) (k : Nat) (ot : Bool) : Prop := ot = true → 0 ≤ z ∧ z < n ∧ z ≠ x ∧ ∀ j m, j < k → ms[j]? = some m → z % m = x % m
theorem OtOk.start {z n x : Int} {ms : List Int} {ot : Bool} (h : ot = true → 0 ≤ z ∧ z < n ∧ z ≠ x) : OtOk z n x ms 0 ot := fun e => ⟨(h e).1, (h e).2.1, (h e).2.2, by intro j m h; omega⟩
theorem OtOk.no {z n x : Int} {ms : List Int} {k : Nat} : OtOk z n x ms k false := fun h => by cases h

set_option maxRecDepth 100000 in
set_option maxHeartbeats 4000000 in
theorem NumberCongruent_any (a b : Option Addr) (c1 c2 : Nat) (rs ms : List Int) (z : Int) (w : World) (hl1 : ISl w (.slice a rs.length c1) rs) (hl2 : ISl w (.slice b ms.length c2) ms) (hb : ∀ x ∈ rs, -9223372036854775808 ≤ x ∧ x ≤ 9223372036854775807) (hz : -9223372036854775808 ≤ z ∧ z ≤ 9223372036854775807) :
    Calls Try.prog 7 #[.slice a rs.length c1, .slice b ms.length c2, .int .i64 z] w fun r w' => r = .returned (.bool true) ∧ Ex w w' := by
  have HL1 := hid_ hl1
  have HL2 := hid_ hl2
  obtain ⟨z1, z2⟩ := hz
  have HB := hid_ hb
  have HP := fun w h1 h2 => hid_ (Chinese_any rs ms (.slice a rs.length c1) (.slice b ms.length c2) w h1 h2 hb)
  clear hb hl1 hl2
  by_cases hbig : 40 < ms.length ∨ 40 < rs.length
  · have c : (40 : Int) < (ms.length : Int) ∨ ((ms.length : Int) ≤ 40 ∧ (40 : Int) < (rs.length : Int)) := by omega
    clear hbig
    rcases c with c | ⟨c, c'⟩
    all_goals
      go_enter Try.func7, Try.ntmps7
      go_wp2_with fail
      refine (awake_any _).mono ?_
      rintro e w1 ⟨rfl, hx1⟩
      go_wp2_with fail
      refine (awake_any _).mono ?_
      rintro e w2 ⟨rfl, hx2⟩
      go_wp2_with fail
      go_ret
      exact ⟨rfl, hx1.trans hx2⟩
  · have hb1 : (ms.length : Int) ≤ 40 := by omega
    have hb2 : (rs.length : Int) ≤ 40 := by omega
    obtain ⟨x, n, er, hS, hF⟩ := chin_facts rs ms
    rw [hS] at HP
    dsimp only at HP
    clear hS hbig
    rcases hF with ⟨f1, f2, f3⟩ | ⟨f1, f2, f3, f4, f5, f6, f7, f8⟩
    · subst f2; subst f3
      have he : (er != 0) = true := by simp [f1]
      clear f1
      go_enter Try.func7, Try.ntmps7
      go_wp2_with fail
      refine (awake_any _).mono ?_
      rintro e w1 ⟨rfl, hx1⟩
      go_wp2_with fail
      refine (HP _ (HL1.out.ex hx1) (HL2.out.ex hx1)).out.mono ?_
      rintro e w2 ⟨rfl, hx2⟩
      go_wp2_with fail
      go_ret
      exact ⟨rfl, hx1.trans hx2⟩
    · subst f1
      have hlen : ((rs.length : Int) != (ms.length : Int)) = false := by rw [f2]; simp
      have F2 := hid_ f2
      have F3 := hid_ f3
      have F7 := hid_ f7
      have F8 := hid_ f8
      clear f2 f3 f7 f8
      obtain ⟨ot, hot⟩ : ∃ ot : Bool, (decide (0 ≤ z) && decide (z < n) && (z != x)) = ot := ⟨_, rfl⟩
      have hot2 : ot = true → 0 ≤ z ∧ z < n ∧ z ≠ x := by
        intro h; rw [h] at hot; simp at hot; omega
      have HOT : OtOk z n x ms 0 ot := OtOk.start hot2
      have c : ot = true ∧ 0 ≤ z ∧ z < n ∧ (z != x) = true ∨ ot = false ∧ z < 0 ∨ ot = false ∧ 0 ≤ z ∧ n ≤ z ∨ ot = false ∧ 0 ≤ z ∧ z < n ∧ (z != x) = false := by
        rcases Int.lt_or_le z 0 with g1 | g1
        · right; left; refine ⟨?_, g1⟩; rw [← hot]; simp; omega
        · rcases Int.lt_or_le z n with g2 | g2
          · cases g3 : (z != x)
            · right; right; right; refine ⟨?_, g1, g2, rfl⟩; rw [← hot, g3]; simp
            · left; refine ⟨?_, g1, g2, rfl⟩; rw [← hot, g3]; simp; omega
          · right; right; left; refine ⟨?_, g1, g2⟩; rw [← hot]; simp; omega
      clear hot hot2
      rcases c with ⟨d0, d1, d2, d3⟩ | ⟨d0, d1⟩ | ⟨d0, d1, d2⟩ | ⟨d0, d1, d2, d3⟩
      all_goals
        subst d0
        go_enter Try.func7, Try.ntmps7
        go_wp2_with fail
        refine (awake_any _).mono ?_
        rintro e w1 ⟨rfl, hx1⟩
        go_wp2_with fail
        refine (HP _ (HL1.out.ex hx1) (HL2.out.ex hx1)).out.mono ?_
        rintro e w2 ⟨rfl, hx2⟩
        go_wp2_with fail
        clear hlen
        have hx3 := hx1.trans hx2
        obtain ⟨aa, cap', he, s1, s2, s3⟩ := (HL1.out.ex hx3).open
        injection he with he1 he2 he3
        subst he1; subst he3
        obtain ⟨bb, cap'', he', t1, t2, t3⟩ := (HL2.out.ex hx3).open
        injection he' with he1 he2' he3
        subst he1; subst he3
        have S3 := hid_ s3
        have T3 := hid_ t3
        unfold maxLen at s2 t2
        clear s3 t3 he2 he2'
        go_loopw [10, 69] (fun o' k' wr => ∃ (k : Nat) (ot : Bool), o' = .bool ot ∧ k' = .int .i64 k ∧ k ≤ ms.length ∧ OtOk z n x ms k ot ∧ Ex w2 wr) (fun _ k' _ => ms.length - (intOf k').toNat)
        case atStart => exact ⟨0, _, rfl, rfl, by omega, HOT, Ex.refl _⟩
        case round =>
          obtain ⟨k, ot, rfl, rfl, hk, hot, hx⟩ := hrel
          by_cases hlt : k < ms.length
          · obtain ⟨m, hmk⟩ : ∃ m, ms[k]? = some m := ⟨_, List.getElem?_eq_getElem hlt⟩
            obtain ⟨r, hrk⟩ : ∃ r, rs[k]? = some r := ⟨_, List.getElem?_eq_getElem (by rw [F2.out]; omega)⟩
            obtain ⟨b1, o1, rfl, hc⟩ := T3.out (by omega)
            obtain ⟨b2, o2, rfl, hc2⟩ := S3.out (by rw [F2.out]; omega)
            have cm := hx.cell (hc k m hmk)
            have cr := hx.cell (hc2 k r hrk)
            obtain ⟨m1, m2⟩ := F3.out m (List.mem_of_getElem? hmk)
            obtain ⟨r1, r2⟩ := HB.out r (List.mem_of_getElem? hrk)
            have hxr := F7.out k m r hmk hrk
            have hxm : (x % m != r % m) = false := by rw [hxr]; simp
            have hm1 : decide (m < 1) = false := by simp; omega
            have hkr : (k : Int) < (rs.length : Int) := by rw [F2.out]; omega
            have HM := fun w => hid_ (rmod_any r m w m1 m2 r1 r2)
            have HMK := hid_ hmk
            clear hc hc2 hxr hmk hrk
            cases ho : ot
            · rw [ho] at hot
              subst ho
              go_wp2
              go_quiet ((go_at_call 28; with_reducible exact quiet_left (HM _).out))
              go_wp2
              go_quiet (fail)
              go_wp2
              go_roundw
              case rel => exact ⟨k + 1, false, rfl, by go_num, by omega, OtOk.no, by first | exact hx.drewN _ | exact (hx.drewN _).drewN _⟩
              case measure => simp [intOf]; omega
            · rw [ho] at hot
              subst ho
              obtain ⟨g1, g2, g3, g4⟩ := hot rfl
              first | (exfalso; omega) | (exfalso; simp [g3] at d3; done) | skip
              all_goals
                have G4 := hid_ g4
                clear g3 g4
                have hzm : z.tmod m = z % m := by rw [Int.tmod_eq_emod_of_nonneg g1]
                have hxm2 : x.tmod m = x % m := by rw [Int.tmod_eq_emod_of_nonneg f4]
                cases hzz : (z % m == x % m)
                · go_wp2
                  go_quiet ((go_at_call 28; with_reducible exact quiet_left (HM _).out))
                  go_wp2
                  go_quiet (fail)
                  go_wp2
                  go_roundw
                  case rel => exact ⟨k + 1, false, rfl, by go_num, by omega, OtOk.no, by first | exact hx.drewN _ | exact (hx.drewN _).drewN _⟩
                  case measure => simp [intOf]; omega
                · have hnew : OtOk z n x ms (k + 1) true := by
                    intro _
                    refine ⟨g1, g2, (hot rfl).2.2.1, fun j m' hj hm' => ?_⟩
                    by_cases e : j = k
                    · subst e; rw [HMK.out] at hm'; injection hm' with hm'; subst hm'; simpa using hzz
                    · exact G4.out j m' (by omega) hm'
                  clear hot
                  go_wp2
                  go_quiet ((go_at_call 28; with_reducible exact quiet_left (HM _).out))
                  go_wp2
                  go_quiet (fail)
                  go_wp2
                  go_roundw
                  case rel => exact ⟨k + 1, true, rfl, by go_num, by omega, hnew, by first | exact hx.drewN _ | exact (hx.drewN _).drewN _⟩
                  case measure => simp [intOf]; omega
          · obtain rfl : k = ms.length := by omega
            have hof : ot = false := by
              cases ho : ot
              · rfl
              · exfalso
                obtain ⟨g1, g2, g3, g4⟩ := hot ho
                refine g3 (F8.out z g1 g2 fun m hm => ?_)
                obtain ⟨j, hj, rfl⟩ := List.mem_iff_getElem.1 hm
                exact g4 j _ hj (List.getElem?_eq_getElem hj)
            subst hof
            go_wp2
            go_ret
            exact ⟨rfl, hx3.trans hx⟩
end Go.Proofs.Ytdnmhjpeklaijaa
