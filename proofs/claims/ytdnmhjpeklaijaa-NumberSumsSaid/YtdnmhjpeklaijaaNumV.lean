/- Walks of the reference's Least, Prime, Factor, Phi. -/
import Derived.Test.YtdnmhjpeklaijaaNumR
import Derived.Test.YtdnmhjpeklaijaaNumE
import Derived.Test.YtdnmhjpeklaijaaNumP
namespace Go.Proofs.Ytdnmhjpeklaijaa
set_option linter.unusedVariables false
set_option linter.unusedSimpArgs false
open Go.RowKit

set_option maxHeartbeats 1000000 in
theorem rleast_any (n : Nat) (w : World) (h1 : 2 ≤ n) (h2 : n ≤ 2147483647) :
    Calls Try.prog 69 #[.int .i64 n] w fun r w' => r = .returned (.int .i64 (ld n)) ∧ w = w' := by
  obtain ⟨l1, l2, l3⟩ := ld_least h1
  obtain ⟨r, hr⟩ : ∃ r, ld n = r := ⟨_, rfl⟩
  have HD := hid_ (fun d (h : NoDiv n d) (hd : n < d * d) => (hr ▸ ld_eq h1 (least_self h1 h hd) : r = n))
  rw [hr] at l1 l2 l3 ⊢
  have L3 := hid_ l3
  have L2 := hid_ l2
  have hrn : r ≤ n := Nat.le_of_dvd (by omega) (Nat.dvd_of_mod_eq_zero l2)
  clear hr l2 l3
  go_enter Try.func69, Try.ntmps69
  go_wp2
  go_loopw [3] (fun d' wr => ∃ d : Nat, d' = .int .i64 d ∧ 2 ≤ d ∧ d ≤ r ∧ d ≤ 46341 ∧ w = wr) (fun d' _ => r - (intOf d').toNat)
  case atStart => exact ⟨2, rfl, by omega, l1, by omega, rfl⟩
  case round =>
    obtain ⟨d, rfl, d1, d2, d3, rfl⟩ := hrel
    have m0 : (d : Int) * (d : Int) = ((d * d : Nat) : Int) := by simp
    have m1 : d * d ≤ 46341 * 46341 := Nat.mul_le_mul d3 d3
    by_cases hle : d * d ≤ n
    · have hle' : (d : Int) * (d : Int) ≤ (n : Int) := by omega
      have m2 : (d : Int) * (d : Int) ≤ 9223372036854775807 := by omega
      have m3 : 0 ≤ (d : Int) * (d : Int) := by omega
      have d4 : d ≤ 46340 := by
        rcases Nat.lt_or_ge 46340 d with h | h
        · have := Nat.mul_le_mul h h; omega
        · exact h
      by_cases he : d = r
      · have hm : ((n : Int) % (d : Int) == 0) = true := by
          have := L2.out
          rw [← he] at this
          have h6 : ((n % d : Nat) : Int) = 0 := by omega
          rw [Int.natCast_emod] at h6
          simp [h6]
        have HE := hid_ he
        clear he m0 m1
        go_wp2
        go_ret
        have := HE.out
        exact ⟨by subst this; rfl, rfl⟩
      · have hm : ((n : Int) % (d : Int) == 0) = false := by
          have := L3.out d d1 (by omega)
          rw [beq_eq_false_iff_ne]
          intro h6
          rw [← Int.natCast_emod] at h6
          omega
        have hdr : d + 1 ≤ r := by omega
        clear he m0 m1
        go_wp2
        go_roundw
        case rel => exact ⟨d + 1, by go_num, by omega, hdr, by omega, by trivial⟩
        case measure => simp [intOf]; omega
    · have hle' : (n : Int) < (d : Int) * (d : Int) := by omega
      have m2 : (d : Int) * (d : Int) ≤ 9223372036854775807 := by omega
      have m3 : 0 ≤ (d : Int) * (d : Int) := by omega
      have hrn2 := HD.out d (L3.out.mono d2) (by omega)
      have HE := hid_ hrn2
      clear m0 m1 hrn2
      go_wp2
      go_ret
      have := HE.out
      exact ⟨by subst this; rfl, rfl⟩

set_option maxHeartbeats 1000000 in
theorem rPrime_any (n : Int) (w : World) :
    Calls Try.prog 47 #[.int .i64 n] w fun r w' => r = .returned (.bool (primeB n)) ∧ Ex w w' := by
  by_cases h : 2 ≤ n ∧ n ≤ 2147483647
  · obtain ⟨h1, h2⟩ := h
    obtain ⟨k, rfl⟩ := Int.eq_ofNat_of_zero_le (show 0 ≤ n by omega)
    have hin : inB 1 (k : Int) = true := inB_mk (by omega) h2
    have HS := hid_ (show primeB k = (((ld k : Nat) : Int) == (k : Int)) by unfold primeB; rw [Bool.eq_iff_iff]; simp; omega)
    go_enter Try.func47, Try.ntmps47
    go_wp2_with (first | (go_at_call 53; refine (rin_any _ _).mono ?_; rintro e w1 ⟨rfl, rfl⟩) | (go_at_call 69; refine (rleast_any _ _ (by omega) (by omega)).mono ?_; rintro e w1 ⟨rfl, rfl⟩))
    go_ret
    exact ⟨ret_bool HS.out.symm, Ex.refl _⟩
  · have HS := hid_ (show primeB n = false by unfold primeB; simp; omega)
    have c : inB 1 n = false ∨ (inB 1 n = true ∧ n = 1) := by
      by_cases h1 : 1 ≤ n ∧ n ≤ 2147483647
      · exact .inr ⟨inB_mk h1.1 h1.2, by omega⟩
      · exact .inl (inB_false h1)
    clear h
    rcases c with c | ⟨c, rfl⟩
    all_goals
      go_enter Try.func47, Try.ntmps47
      go_wp2_with (first | (go_at_call 53; refine (rin_any _ _).mono ?_; rintro e w1 ⟨rfl, rfl⟩))
      go_ret
      exact ⟨ret_bool HS.out.symm, Ex.refl _⟩

set_option maxHeartbeats 1000000 in
theorem rFactor_no (n : Int) (w : World) (h : ¬ (1 ≤ n ∧ n ≤ 2147483647)) :
    Calls Try.prog 40 #[.int .i64 n] w fun r w' => r = .returned (.tuple #[.slice none 0 0, .int .i64 6]) ∧ Ex w w' := by
  have hin : inB 1 n = false := inB_false h
  clear h
  go_enter Try.func40, Try.ntmps40
  go_wp2_with (go_at_call 53; refine (rin_any _ _).mono ?_; rintro e w1 ⟨rfl, rfl⟩)
  go_ret2
  exact ⟨rfl, Ex.refl _⟩

set_option maxHeartbeats 2000000 in
theorem rFactor_yes (n : Nat) (w : World) (h0 : 1 ≤ n) (h1 : n ≤ 2147483647) :
    Calls Try.prog 40 #[.int .i64 n] w fun r w' => ∃ v, r = .returned (.tuple #[v, .int .i64 0]) ∧ Sl w' v (facs n).length 2 (flat (facs n)) ∧ Ex w w' := by
  have hin : inB 1 n = true := inB_mk (by omega) (by omega)
  obtain ⟨ip, hip, hz0, hz1, hz2⟩ := info_parts infoP
  go_enter Try.func40, Try.ntmps40
  go_wp2_with (go_at_call 53; refine (rin_any _ _).mono ?_; rintro e w1 ⟨rfl, rfl⟩)
  clear hin
  go_loopw [0, 4] (fun n' v' wr => ∃ (m : Nat) (l : List (Nat × Nat)), n' = .int .i64 m ∧ 1 ≤ m ∧ m ≤ 2147483647 ∧ Hid (l ++ facs m = facs n) ∧ Hid (2 ^ l.length * m ≤ n) ∧ wr.ownsRow w.heap.size 29 2 v' l.length (flat l) ∧ Ex w wr) (fun n' _ _ => (intOf n').toNat)
  case atStart => exact ⟨n, [], rfl, h0, h1, hid_ rfl, hid_ (by simp), World.ownsRow_nil _ _ _ _, Ex.refl _⟩
  case round =>
    obtain ⟨m, l, rfl, m0, m1, hl, hln, hown, hx⟩ := hrel
    by_cases hm : 2 ≤ m
    · have hm' : (1 : Int) < m := by omega
      obtain ⟨p, hp⟩ : ∃ p, ld m = p := ⟨_, rfl⟩
      have hleast := ld_least hm
      rw [hp] at hleast
      have p2 := hleast.1
      have p3 : p ≤ m := Nat.le_of_dvd (by omega) (Nat.dvd_of_mod_eq_zero hleast.2.1)
      have HP := hid_ hp
      have HL := hid_ hleast
      clear hleast
      go_wp2_with (go_at_call 69; refine (rleast_any _ _ hm m1).mono ?_; rintro e w1 ⟨rfl, rfl⟩; rw [hp])
      clear hp
      go_loopw [0, 6] (fun n' e' wx => ∃ m2 e : Nat, n' = .int .i64 m2 ∧ e' = .int .i64 e ∧ 1 ≤ m2 ∧ m2 ≤ 2147483647 ∧ e ≤ 2147483647 ∧ Hid (e + mult p m2 = mult p m ∧ strip p m2 = strip p m ∧ e + m2 ≤ m) ∧ wr = wx) (fun n' _ _ => (intOf n').toNat)
      case atStart => exact ⟨m, 0, rfl, rfl, m0, m1, by omega, hid_ ⟨by simp, rfl, by omega⟩, rfl⟩
      case round =>
        obtain ⟨m2, e, rfl, rfl, k1, k2, ke, hk, rfl⟩ := hrel
        by_cases hd : m2 % p = 0
        · have hd' : ((m2 : Int) % (p : Int) == 0) = true := by simp; omega
          obtain ⟨q1, q2, q3⟩ := mult_step p2 k1 hd
          have q4 := strip_step p2 k1 hd
          have HQ := hid_ q1; clear q1
          have HQ4 := hid_ q4; clear q4
          have HD := hid_ hd; clear hd
          have he : e + m2 ≤ m := hk.out.2.2
          have hk4 : e + 1 + mult p (m2 / p) = mult p m ∧ strip p (m2 / p) = strip p m ∧ e + 1 + m2 / p ≤ m := by
            obtain ⟨h5, h6, h7⟩ := hk.out
            have h8 := HQ.out
            have h9 := HQ4.out
            exact ⟨by omega, by omega, by omega⟩
          have HK := hid_ hk4; clear hk4
          go_wp2
          go_roundw
          case rel => exact ⟨m2 / p, e + 1, by go_num, by go_num, q2, by omega, by omega, HK, by trivial⟩
          case measure => simp [intOf]; omega
        · have hd' : ((m2 : Int) % (p : Int) == 0) = false := by simp; omega
          obtain ⟨h5, h6, h7⟩ := hk.out
          rw [mult_zero hd] at h5
          rw [strip_zero hd] at h6
          have H5 := hid_ h5
          have H6 := hid_ h6
          clear h5 h6 h7 hd hk
          have hpk := pow_len hln.out m0 h1
          go_wp2_with (at_builtin; refine wpList_append_own _ rfl _ _ 24 rfl w.heap.size 29 ip (.agg #[.int .i64 0, .int .i64 0]) 2 16 Try.underlying24 hip hz0 hz1 hz2 rfl (by decide) _ _ _ rfl (hown.alloc _) ⟨wr.heap.size, 0, none⟩ 1 1 [.int .i64 p, .int .i64 e] rfl rfl ?c1 ?c2 ?c3 ?c4 ?c5 ?_)
          case c1 => exact hnews2 _ _ _ _
          case c2 => simp [Value.oneCell']
          case c3 => unfold maxLen; omega
          case c4 => omega
          case c5 => simp; have := hx.size; omega
          intro v' w3 hown3 hg3 hnil3
          have hx4 : Ex w w3 := Below.grown (hx.alloc _) hg3 (by have := hx.size; simp; omega) (fun k hk => (hown.lt k hk).1)
          have hown4 : w3.ownsRow w.heap.size 29 2 v' (l ++ [(p, e)]).length (flat (l ++ [(p, e)])) := by
            rw [flat_snoc, List.length_append]; exact hown3
          clear hown3 hg3 hnil3 hown
          go_wp2
          go_roundw
          case rel =>
            refine ⟨m2, l ++ [(p, e)], rfl, k1, k2, ?_, ?_, hown4, hx4⟩
            · apply hid_
              rw [← hl.out, facs_cons hm, HP.out, ← H6.out, ← H5.out]
              simp
            · apply hid_
              have h8 := strip_le p2 m0 HL.out.2.1
              rw [← H6.out] at h8
              rw [List.length_append, List.length_singleton, Nat.pow_succ]
              have h9 := hln.out
              have h10 := Nat.mul_le_mul p2 (Nat.le_refl m2)
              have h11 : 2 ^ l.length * 2 * m2 ≤ 2 ^ l.length * m := by
                rw [Nat.mul_assoc]; exact Nat.mul_le_mul_left _ (by omega)
              omega
          case measure =>
            have h8 := strip_le p2 m0 HL.out.2.1
            rw [← H6.out] at h8
            have h10 := Nat.mul_le_mul p2 (Nat.le_refl m2)
            simp [intOf]; omega
    · obtain rfl : m = 1 := by omega
      have hl' := hl.out
      rw [facs_one (Nat.le_refl _), List.append_nil] at hl'
      subst hl'
      go_wp2
      go_ret2
      exact ⟨_, rfl, Sl.own hown, hx⟩

set_option maxHeartbeats 1000000 in
theorem rPhi_yes (n : Nat) (w : World) (h1 : 1 ≤ n) (h2 : n ≤ 2147483647) :
    Calls Try.prog 58 #[.int .i64 n] w fun r w' => r = .returned (.tuple #[.int .i64 (phi n), .int .i64 0]) ∧ Ex w w' := by
  go_enter Try.func58, Try.ntmps58
  go_wp2_with (first | (go_at_call 40; refine (rFactor_yes _ _ h1 h2).mono ?_; rintro e w1 ⟨v, rfl, hsl, hx⟩; obtain ⟨sa, cap, rfl, s1, s2, s3⟩ := PSl.open hsl))
  have hge := facs_ge n
  have HG := hid_ hge; clear hge
  have HP := hid_ (show phi n = phiGo n (facs n) from rfl)
  have hlen := facs_len h1 h2
  generalize facs n = l at *
  unfold maxLen at s2
  have S3 := hid_ s3; clear s3
  go_loopw [0, 6] (fun n' k' wr => ∃ k : Nat, n' = .int .i64 (phiGo n (l.take k)) ∧ k' = .int .i64 k ∧ k ≤ l.length ∧ Ex w1 wr) (fun _ k' _ => l.length - (intOf k').toNat)
  case atStart => exact ⟨0, by simp [phiGo], rfl, by omega, Ex.refl _⟩
  case round =>
    obtain ⟨k, rfl, rfl, hk, hx1⟩ := hrel
    by_cases hlt : k < l.length
    · obtain ⟨x, hxk⟩ : ∃ x, l[k]? = some x := ⟨_, List.getElem?_eq_getElem hlt⟩
      obtain ⟨b, o, rfl, hc⟩ := S3.out (by omega)
      obtain ⟨c1, c2⟩ := hc k x hxk
      replace c1 := hx1.cell c1
      replace c2 := hx1.cell c2
      obtain ⟨g1, g2, g3⟩ := HG.out x (List.mem_of_getElem? hxk)
      have hle := phiGo_le n (l.take k)
      have hst := phiGo_append n (l.take k) x
      rw [← take_snoc_ hxk] at hst
      have HS := hid_ hst
      clear hst hc hxk
      generalize phiGo n (l.take k) = m at *
      go_wp2
      go_quiet (fail)
      go_wp2
      go_roundw
      case rel =>
        have q1 : (m : Int) / (x.1 : Int) = ((m / x.1 : Nat) : Int) := by simp
        have q2 := Nat.div_mul_le_self m x.1
        have q3 := Nat.mul_le_mul_left (m / x.1) (Nat.sub_le x.1 1)
        have q4 : ((m / x.1 : Nat) : Int) * ((x.1 : Int) - 1) = ((m / x.1 * (x.1 - 1) : Nat) : Int) := by
          rw [Int.natCast_mul, Int.natCast_sub (by omega)]; rfl
        have q5 := Nat.div_le_self m x.1
        refine ⟨k + 1, ?_, by go_num, by omega, hx1.drewN _⟩
        rw [HS.out, q1]
        generalize m / x.1 = t at *
        rw [w64 (x := (t : Int)) (by omega) (by omega), q4, w64 (by omega) (by omega)]
      case measure => simp [intOf]; omega
    · obtain rfl : k = l.length := by omega
      rw [List.take_length] at *
      go_wp2
      go_ret2
      exact ⟨ret_ii (by rw [HP.out]) rfl, hx.trans hx1⟩

set_option maxHeartbeats 1000000 in
theorem rPhi_no (n : Int) (w : World) (h : ¬ (1 ≤ n ∧ n ≤ 2147483647)) :
    Calls Try.prog 58 #[.int .i64 n] w fun r w' => r = .returned (.tuple #[.int .i64 0, .int .i64 6]) ∧ Ex w w' := by
  have c := fun w => rFactor_no n w h
  clear h
  go_enter Try.func58, Try.ntmps58
  go_wp2_with (first | (go_at_call 40; refine (c _).mono ?_; rintro e w1 ⟨rfl, hx⟩))
  go_ret2
  exact ⟨rfl, hx⟩

set_option maxHeartbeats 1000000 in
theorem rPrimePower_any (n : Int) (w : World) :
    Calls Try.prog 42 #[.int .i64 n] w fun r w' => r = .returned (.tuple #[.int .i64 (ppS n).1, .int .i64 (ppS n).2.1, .int .i64 (ppS n).2.2]) ∧ Ex w w' := by
  by_cases h : 1 ≤ n ∧ n ≤ 2147483647
  · obtain ⟨h1, h2⟩ := h
    obtain ⟨m, rfl⟩ := Int.eq_ofNat_of_zero_le (show 0 ≤ n by omega)
    have hp : ppS m = ppL (facs m) := by
      unfold ppS; rw [if_pos ⟨h1, h2⟩, Int.toNat_natCast]
    have HP := hid_ hp; clear hp
    by_cases hl : (facs m).length = 1
    · have hl1 : (((facs m).length : Int) != 1) = false := by rw [hl]; rfl
      obtain ⟨x, hx0⟩ := List.length_eq_one_iff.1 hl
      have HX := hid_ hx0
      clear hx0 hl
      go_enter Try.func42, Try.ntmps42
      go_wp2_with fail
      refine (rFactor_yes _ _ (by omega) (by omega)).mono ?_
      rintro e w1 ⟨v, rfl, hsl, hx⟩
      obtain ⟨sa, cap, rfl, s1, s2, s3⟩ := PSl.open hsl
      have s4 := s3 (by rw [HX.out]; exact Nat.one_pos)
      obtain ⟨b, o, rfl, hc⟩ := s4
      obtain ⟨c1, c2⟩ := hc 0 x (by rw [HX.out]; rfl)
      simp only [Nat.zero_mul, Nat.add_zero] at c1 c2
      clear s3 hc
      have hpos : 0 < (facs m).length := by rw [HX.out]; exact Nat.one_pos
      go_wp2
      go_quiet (fail)
      go_wp2
      go_ret3
      rw [HP.out, HX.out]
      exact ⟨rfl, hx.drewN _⟩
    · have hl1 : (((facs m).length : Int) != 1) = true := by rw [bne_iff_ne]; omega
      have HP2 := hid_ (ppL_no _ hl)
      clear hl
      go_enter Try.func42, Try.ntmps42
      go_wp2_with (first | (go_at_call 40; refine (rFactor_yes _ _ (by omega) (by omega)).mono ?_; rintro e w1 ⟨v, rfl, hsl, hx⟩; obtain ⟨sa, cap, rfl, s1, s2, s3⟩ := PSl.open hsl))
      go_ret3
      rw [HP.out, HP2.out]
      exact ⟨rfl, hx⟩
  · have c := fun w => rFactor_no n w h
    have HS := hid_ (show ppS n = (0, 0, 6) by unfold ppS; rw [if_neg h])
    clear h
    go_enter Try.func42, Try.ntmps42
    go_wp2_with (first | (go_at_call 40; refine (c _).mono ?_; rintro e w1 ⟨rfl, hx⟩))
    go_ret3
    rw [HS.out]
    exact ⟨rfl, hx⟩
end Go.Proofs.Ytdnmhjpeklaijaa
