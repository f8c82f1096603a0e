/- Walk of Chinese. -/
import Derived.Test.YtdnmhjpeklaijaaNumG
namespace Go.Proofs.Ytdnmhjpeklaijaa
set_option linter.unusedVariables false
set_option linter.unusedSimpArgs false
open Go.RowKit

theorem inB_inN (m : Int) : inB 1 m = inN m := by
  rw [Bool.eq_iff_iff]; unfold inB inN; simp

theorem chin_wrap {x d r m : Int} (m1 : 1 ≤ m) (m2 : m ≤ 2147483647) (h0 : 0 ≤ halfX (d % m) m) (h1 : halfX (d % m) m < m)
    (h2 : 0 ≤ d * chinT x d r m) (h3 : x + d * chinT x d r m ≤ 2147483647) (h4 : 0 ≤ x) :
    wrap64 (x + wrap64 (d * (wrap64 ((r - x) % m * halfX (d % m) m)).tmod m)) = x + d * chinT x d r m := by
  have e0 := Int.emod_nonneg (r - x) (b := m) (by omega)
  have e1 := Int.emod_lt_of_pos (r - x) (b := m) (by omega)
  have p0 := Int.mul_nonneg e0 h0
  have p1 : (r - x) % m * halfX (d % m) m ≤ 2147483647 * 2147483647 := Int.mul_le_mul (by omega) (by omega) h0 (by omega)
  rw [w64 (x := (r - x) % m * halfX (d % m) m) (by omega) (by omega), Int.tmod_eq_emod_of_nonneg p0]
  have e : d * ((r - x) % m * halfX (d % m) m % m) = d * chinT x d r m := rfl
  rw [e, w64 (x := d * chinT x d r m) (by omega) (by omega), w64 (by omega) (by omega)]

set_option maxHeartbeats 4000000 in
theorem Chinese_any (rs ms : List Int) (v1 v2 : Value) (w : World) (hl1 : ISl w v1 rs) (hl2 : ISl w v2 ms) (hb : ∀ x ∈ rs, -9223372036854775808 ≤ x ∧ x ≤ 9223372036854775807) :
    Calls Try.prog 26 #[v1, v2] w fun r w' => r = .returned (.tuple #[.int .i64 (chinS rs ms).1, .int .i64 (chinS rs ms).2.1, .int .i64 (chinS rs ms).2.2]) ∧ Ex w w' := by
  obtain ⟨sa, cap, rfl, s1, s2, s3⟩ := hl1.open
  obtain ⟨sb, cap2, rfl, t1, t2, t3⟩ := hl2.open
  unfold maxLen at s2 t2
  have S3 := hid_ s3
  have T3 := hid_ t3
  have HB := hid_ hb
  clear s3 t3 hb hl1 hl2
  have HS := hid_ (show chinS rs ms = if rs.length ≠ ms.length then (0, 0, 10) else if ms.all inN = false then (0, 0, 6) else if 2147483647 < prodL ms then (0, 0, 8) else chinO (chinGo rs ms 0 1) from rfl)
  by_cases hlen : rs.length = ms.length
  case neg =>
    have hne : ((rs.length : Int) != (ms.length : Int)) = true := by rw [bne_iff_ne]; omega
    have HS2 := hid_ (show chinS rs ms = (0, 0, 10) by rw [HS.out, if_pos hlen])
    clear hlen
    go_enter Try.func26, Try.ntmps26
    go_wp2
    go_ret3
    rw [HS2.out]
    exact ⟨rfl, Ex.refl _⟩
  have hne : ((rs.length : Int) != (ms.length : Int)) = false := by rw [hlen]; simp
  have HS2 := hid_ (show chinS rs ms = if ms.all inN = false then (0, 0, 6) else if 2147483647 < prodL ms then (0, 0, 8) else chinO (chinGo rs ms 0 1) by rw [HS.out, if_neg (by simpa using hlen)])
  have HLEN := hid_ hlen
  clear hlen HS
  go_enter Try.func26, Try.ntmps26
  go_wp2
  clear hne
  go_loopw [26] (fun k' wr => ∃ k : Nat, k' = .int .i64 k ∧ k ≤ ms.length ∧ Hid (∀ j y, j < k → ms[j]? = some y → inN y = true) ∧ wr = w) (fun k' _ => ms.length - (intOf k').toNat)
  case atStart => exact ⟨0, rfl, by omega, hid_ (by intro j y h; omega), rfl⟩
  case round =>
    obtain ⟨k, rfl, hk, hall, rfl⟩ := hrel
    by_cases hlt : k < ms.length
    · obtain ⟨y, hy⟩ : ∃ y, ms[k]? = some y := ⟨_, List.getElem?_eq_getElem hlt⟩
      obtain ⟨b, o, rfl, hc⟩ := T3.out (by omega)
      have c1 := hc k y hy
      have HY := hid_ hy
      clear hc hy
      cases hpy : inN y
      · have HS3 := hid_ (show chinS rs ms = (0, 0, 6) by
          rw [HS2.out, if_pos]
          rw [List.all_eq_false]
          exact ⟨y, List.mem_of_getElem? HY.out, by rw [hpy]; simp⟩)
        have hin : inB 1 y = false := by rw [inB_inN]; exact hpy
        go_wp2_with (go_at_call 49; refine (in_any _ _ _).mono ?_; rintro e w1 ⟨rfl, rfl⟩)
        go_ret3
        rw [HS3.out]
        exact ⟨rfl, Ex.refl _⟩
      · have hall' : ∀ j z, j < k + 1 → ms[j]? = some z → inN z = true := by
          intro j z hj hz
          by_cases e : j = k
          · subst e; rw [HY.out] at hz; injection hz with hz; subst hz; exact hpy
          · exact hall.out j z (by omega) hz
        have HA := hid_ hall'
        clear hall hall'
        have hin : inB 1 y = true := by rw [inB_inN]; exact hpy
        go_wp2_with (go_at_call 49; refine (in_any _ _ _).mono ?_; rintro e w1 ⟨rfl, rfl⟩)
        go_roundw
        case rel => exact ⟨k + 1, by go_num, by omega, HA, by first | rfl | trivial⟩
        case measure => simp [intOf]; omega
    · obtain rfl : k = ms.length := by omega
      have hallb : ms.all inN = true := by
        rw [List.all_eq_true]
        intro z hz
        obtain ⟨j, hj, rfl⟩ := List.mem_iff_getElem.1 hz
        exact hall.out j _ hj (List.getElem?_eq_getElem hj)
      have HA := hid_ hallb
      have HP := hid_ (show ∀ z ∈ ms, 1 ≤ z ∧ z ≤ 2147483647 from fun z hz => by
        have := List.all_eq_true.1 hallb z hz
        unfold inN at this
        simpa using this)
      have HS3 := hid_ (show chinS rs ms = if 2147483647 < prodL ms then (0, 0, 8) else chinO (chinGo rs ms 0 1) by rw [HS2.out, if_neg (by rw [hallb]; simp)])
      clear hallb HS2
      have hbd : ∀ k, 1 ≤ prodL (ms.take k) ∧ prodL (ms.take k) ≤ prodL ms := fun k => ⟨prodL_pos _ fun x hx => (HP.out x (List.mem_of_mem_take hx)).1, prodL_take_le ms k fun x hx => (HP.out x hx).1⟩
      have HBD := hid_ hbd
      clear hbd
      go_wp2
      go_loopw [9, 36] (fun o' k' wy => ∃ k : Nat, o' = .int .i64 (prodL (ms.take k)) ∧ k' = .int .i64 k ∧ k ≤ ms.length ∧ prodL (ms.take k) ≤ 2147483647 ∧ wy = wr) (fun _ k' _ => ms.length - (intOf k').toNat)
      case atStart => exact ⟨0, by simp [prodL], rfl, by omega, by simp [prodL], rfl⟩
      case round =>
        obtain ⟨k, rfl, rfl, hk, ho, rfl⟩ := hrel
        by_cases hlt : k < ms.length
        · obtain ⟨x, hxk⟩ : ∃ x, ms[k]? = some x := ⟨_, List.getElem?_eq_getElem hlt⟩
          obtain ⟨b, o, rfl, hc⟩ := T3.out (by omega)
          have c1 := hc k x hxk
          obtain ⟨x1, x2⟩ := HP.out x (List.mem_of_getElem? hxk)
          obtain ⟨p1, p2⟩ := HBD.out k
          have hst : prodL (ms.take (k + 1)) = prodL (ms.take k) * x := by rw [take_snoc_ hxk, prodL_append]; simp [prodL]
          have hup := (HBD.out (k + 1)).2
          rw [hst] at hup
          have HST := hid_ hst
          clear hc hxk hst
          generalize prodL (ms.take k) = q at *
          by_cases hlt2 : 2147483647 / x < q
          · have hbig := lt_of_div_lt x1 hlt2
            have HS4 := hid_ (show chinS rs ms = (0, 0, 8) by rw [HS3.out, if_pos (by omega)])
            clear hup hbig
            go_wp2
            go_ret3
            rw [HS4.out]
            exact ⟨rfl, Ex.refl _⟩
          · have hle := le_of_le_div x1 (show q ≤ 2147483647 / x by omega)
            have hpos : 0 ≤ q * x := Int.mul_nonneg (by omega) (by omega)
            clear hup
            go_wp2
            go_roundw
            case rel => exact ⟨k + 1, by rw [HST.out], by go_num, by omega, by rw [HST.out]; omega, by first | rfl | trivial⟩
            case measure => simp [intOf]; omega
        · obtain rfl : k = ms.length := by omega
          rw [List.take_length] at *
          have HS4 := hid_ (show chinS rs ms = chinO (chinGo rs ms 0 1) by rw [HS3.out, if_neg (by omega)])
          clear HS3
          go_wp2
          go_loopw [12, 13, 50] (fun x' d' k' wz => ∃ (k : Nat) (x d : Int), x' = .int .i64 x ∧ d' = .int .i64 d ∧ k' = .int .i64 k ∧ k ≤ ms.length ∧ 0 ≤ x ∧ x < d ∧ d ≤ 2147483647 ∧ Hid (d = prodL (ms.take k)) ∧ Hid (chinGo (rs.drop k) (ms.drop k) x d = chinGo rs ms 0 1) ∧ Ex wr wz) (fun _ _ k' _ => ms.length - (intOf k').toNat)
          case atStart => exact ⟨0, 0, 1, rfl, rfl, rfl, by omega, by omega, by omega, by omega, hid_ rfl, hid_ rfl, Ex.refl _⟩
          case round =>
            obtain ⟨k, x, d, rfl, rfl, rfl, hk, x0, xd, dl, hd, hgo, hx⟩ := hrel
            by_cases hlt : k < ms.length
            · obtain ⟨m, hmk⟩ : ∃ m, ms[k]? = some m := ⟨_, List.getElem?_eq_getElem hlt⟩
              obtain ⟨r, hrk⟩ : ∃ r, rs[k]? = some r := ⟨_, List.getElem?_eq_getElem (by rw [HLEN.out]; omega)⟩
              obtain ⟨b, o, rfl, hc⟩ := T3.out (by omega)
              obtain ⟨b2, o2, rfl, hc2⟩ := S3.out (by rw [HLEN.out]; omega)
              have c1 := hx.cell (hc k m hmk)
              have c2 := hx.cell (hc2 k r hrk)
              obtain ⟨m1, m2⟩ := HP.out m (List.mem_of_getElem? hmk)
              obtain ⟨r1, r2⟩ := HB.out r (List.mem_of_getElem? hrk)
              have q0 := Int.emod_nonneg d (b := m) (by omega)
              have q1 := Int.emod_lt_of_pos d (b := m) (by omega)
              clear hc hc2
              by_cases hg : Int.gcd (d % m) m = 1
              · have hg' : (((Int.gcd (d % m) m : Nat) : Int) != 1) = false := by rw [hg]; rfl
                have HG := hid_ hg
                clear hg
                have e0 := Int.emod_nonneg r (b := m) (by omega)
                have e1 := Int.emod_lt_of_pos r (b := m) (by omega)
                have f0 := Int.emod_nonneg x (b := m) (by omega)
                have f1 := Int.emod_lt_of_pos x (b := m) (by omega)
                obtain ⟨l1, l2, l3, l4⟩ := halfX_lims q0 q1
                go_wp2_with (go_at_call 51; refine (half_any _ _ _ q0 q1 m2).mono ?_; rintro e w1 ⟨rfl, rfl⟩)
                have hkr : (k : Int) < (rs.length : Int) := by rw [HLEN.out]; omega
                have HM1 := fun w => hid_ (mod_any r m w m1 m2 r1 r2)
                have HM2 := fun w => hid_ (mod_any (r % m - x % m) m w m1 m2 (by omega) (by omega))
                go_quiet ((go_at_call 52; first | (with_reducible exact quiet_left (HM1 _).out) | (with_reducible exact quiet_left (HM2 _).out)))
                go_wp2
                go_roundw
                case rel =>
                  have hst : prodL (ms.take (k + 1)) = prodL (ms.take k) * m := by rw [take_snoc_ hmk, prodL_append]; simp [prodL]
                  have hup := (HBD.out (k + 1)).2
                  rw [hst, ← hd.out] at hup
                  obtain ⟨u1, u2⟩ := chinT_lim (x := x) (d := d) (r := r) m1
                  obtain ⟨u3, u4⟩ := chin_step_lim x0 xd u1 u2
                  have hgo2 : chinGo (rs.drop (k + 1)) (ms.drop (k + 1)) (x + d * chinT x d r m) (d * m) = chinGo rs ms 0 1 := by
                    rw [← hgo.out, List.drop_eq_getElem_cons hlt, List.drop_eq_getElem_cons (i := k) (l := rs) (by rw [HLEN.out]; omega)]
                    have em : ms[k] = m := by rw [List.getElem?_eq_getElem hlt] at hmk; injection hmk
                    have er : rs[k]'(by rw [HLEN.out]; omega) = r := by rw [List.getElem?_eq_getElem (by rw [HLEN.out]; omega)] at hrk; injection hrk
                    simp only [em, er, chinGo]
                    rw [if_pos HG.out]
                  rw [chin_wrap m1 m2 l3 l4 u3 (by omega) x0, w64 (x := d * m) (by omega) (by omega)]
                  exact ⟨k + 1, _, _, rfl, rfl, by go_num, by omega, by omega, by omega, by omega, hid_ (by rw [hst, hd.out]), hid_ hgo2, hx.drewN _⟩
                case measure => simp [intOf]; omega
              · have hg' : (((Int.gcd (d % m) m : Nat) : Int) != 1) = true := by rw [bne_iff_ne]; omega
                have HS5 := hid_ (show chinS rs ms = (0, 0, 11) by
                  rw [HS4.out, ← hgo.out, List.drop_eq_getElem_cons hlt, List.drop_eq_getElem_cons (by rw [HLEN.out]; omega)]
                  have em : ms[k] = m := by rw [List.getElem?_eq_getElem hlt] at hmk; injection hmk
                  simp only [em, chinGo]
                  rw [if_neg hg]; rfl)
                clear hg
                go_wp2_with (go_at_call 51; refine (half_any _ _ _ q0 q1 m2).mono ?_; rintro e w1 ⟨rfl, rfl⟩)
                go_ret3
                rw [HS5.out]
                exact ⟨rfl, hx⟩
            · obtain rfl : k = ms.length := by omega
              rw [List.take_length] at *
              have hf := hgo.out
              rw [List.drop_length, chinGo_nil] at hf
              have HS5 := hid_ (show chinS rs ms = (x, d, 0) by rw [HS4.out, ← hf]; rfl)
              clear hf hgo
              have hd' := hd.out
              go_wp2
              go_ret3
              rw [HS5.out]
              exact ⟨ret_iii rfl hd'.symm rfl, hx⟩

end Go.Proofs.Ytdnmhjpeklaijaa
