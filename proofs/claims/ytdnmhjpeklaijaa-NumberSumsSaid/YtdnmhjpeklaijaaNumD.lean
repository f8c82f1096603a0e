
/- Walk of Factor. -/
import Derived.Test.YtdnmhjpeklaijaaNumC
namespace Go.Proofs.Ytdnmhjpeklaijaa
set_option linter.unusedVariables false
set_option linter.unusedSimpArgs false
open Go.RowKit

def flat (l : List (Nat × Nat)) : List Value := l.flatMap fun x => [.int .i64 x.1, .int .i64 x.2]
theorem flat_length (l : List (Nat × Nat)) : (flat l).length = l.length * 2 := by
  induction l with
  | nil => rfl
  | cons x l ih => simp [flat, List.flatMap_cons] at ih ⊢; omega
theorem flat_snoc (l : List (Nat × Nat)) (x : Nat × Nat) : flat (l ++ [x]) = flat l ++ [.int .i64 x.1, .int .i64 x.2] := by simp [flat]

theorem infoP : (Try.prog.info? 29).map (fun i => (i.zero, i.size, i.bytes)) = some (some (.agg #[.int .i64 0, .int .i64 0]), 2, 16) := by kernel_rfl

set_option maxHeartbeats 2000000 in
theorem Factor_yes (n : Nat) (w : World) (h0 : 1 ≤ n) (h1 : n ≤ 2147483647) :
    Calls Try.prog 17 #[.int .i64 n] w fun r w' => ∃ v, r = .returned (.tuple #[v, .int .i64 0]) ∧ Sl w' v (facs n).length 2 (flat (facs n)) ∧ Ex w w' := by
  have hin : inB 1 n = true := inB_mk (by omega) (by omega)
  obtain ⟨ip, hip, hz0, hz1, hz2⟩ := info_parts infoP
  go_enter Try.func17, Try.ntmps17
  go_wp2_with (go_at_call 49; refine (in_any _ _ _).mono ?_; rintro e w1 ⟨rfl, rfl⟩)
  clear hin
  go_loopw [0, 4] (fun n' v' wr => ∃ (m : Nat) (l : List (Nat × Nat)), n' = .int .i64 m ∧ 1 ≤ m ∧ m ≤ 2147483647 ∧ Hid (l ++ facs m = facs n) ∧ Hid (2 ^ l.length * m ≤ n) ∧ wr.ownsRow w.heap.size 29 2 v' l.length (flat l) ∧ Ex w wr) (fun n' _ _ => (intOf n').toNat)
  case atStart => exact ⟨n, [], rfl, h0, h1, hid_ rfl, hid_ (by simp), World.ownsRow_nil _ _ _ _, Ex.refl _⟩
  case round =>
    obtain ⟨m, l, rfl, m0, m1, hl, hln, hown, hx⟩ := hrel
    by_cases hm : 2 ≤ m
    · have hm' : (1 : Int) < m := by omega
      obtain ⟨p, hp⟩ : ∃ p, ld m = p := ⟨_, rfl⟩
      have hleast := ld_least hm
      rw [hp] at hleast
      have p2 := hleast.1
      have p3 : p ≤ m := Nat.le_of_dvd (by omega) (Nat.dvd_of_mod_eq_zero hleast.2.1)
      have HP := hid_ hp
      have HL := hid_ hleast
      clear hleast
      go_wp2_with (go_at_call 50; refine (least_any _ _ hm m1).mono ?_; rintro e w1 ⟨rfl, hx1⟩; rw [hp])
      clear hp
      have hown1 := ownsRow_ex hown hx1
      have hx2 := hx.trans hx1
      have hne := ownBlock_ne hown1 (Nat.le_refl _)
      clear hown hx hx1
      obtain ⟨B, hB⟩ : ∃ B, w1.heap.size = B := ⟨_, rfl⟩
      have hbase : w.heap.size ≤ B := by rw [← hB]; exact hx2.size
      have c0 : (w1.alloc (.cells #[.int .i64 p, .int .i64 0] 29)).cell? ⟨B, 0, none⟩ = some (.int .i64 p) := by rw [← hB]; simp
      have c1 : (w1.alloc (.cells #[.int .i64 p, .int .i64 0] 29)).cell? ⟨B, 1, none⟩ = some (.int .i64 (0 : Nat)) := by rw [← hB]; simp
      have f1 : (w1.alloc (.cells #[.int .i64 p, .int .i64 0] 29)).frozen? ⟨B, 1, none⟩ = false := by rw [← hB]; simp
      have s1 : B < (w1.alloc (.cells #[.int .i64 p, .int .i64 0] 29)).heap.size := by rw [← hB]; simp
      have own1 := hown1.alloc (.cells #[.int .i64 p, .int .i64 0] 29)
      have hx3 := hx2.alloc (.cells #[.int .i64 p, .int .i64 0] 29)
      rw [hB] at hne
      simp only [hB]
      generalize w1.alloc (.cells #[.int .i64 p, .int .i64 0] 29) = w2 at c0 c1 f1 s1 own1 hx3 ⊢
      have HO := hid_ hown1
      clear hown1 hx2 hB
      go_loopw [0] (fun n' wr => ∃ m2 e : Nat, n' = .int .i64 m2 ∧ 1 ≤ m2 ∧ m2 ≤ 2147483647 ∧ e ≤ 2147483647 ∧ Hid (e + mult p m2 = mult p m ∧ strip p m2 = strip p m ∧ e + m2 ≤ m) ∧ wr.cell? ⟨B, 0, none⟩ = some (.int .i64 p) ∧ wr.cell? ⟨B, 1, none⟩ = some (.int .i64 e) ∧ wr.frozen? ⟨B, 1, none⟩ = false ∧ B < wr.heap.size ∧ wr.ownsRow w.heap.size 29 2 u4 l.length (flat l) ∧ Ex w wr) (fun n' _ => (intOf n').toNat)
      case atStart => exact ⟨m, 0, rfl, m0, m1, by omega, hid_ ⟨by simp, rfl, by omega⟩, c0, c1, f1, s1, own1, hx3⟩
      case round =>
        clear c0 c1 f1 s1 own1 hx3
        obtain ⟨m2, e, rfl, k1, k2, ke, hk, c0, c1, f1, s1, own1, hx3⟩ := hrel
        by_cases hd : m2 % p = 0
        · have hd' : ((m2 : Int) % (p : Int) == 0) = true := by simp; omega
          obtain ⟨q1, q2, q3⟩ := mult_step p2 k1 hd
          have q4 := strip_step p2 k1 hd
          have HQ := hid_ q1; clear q1
          have HQ4 := hid_ q4; clear q4
          have HD := hid_ hd; clear hd
          have he : e + m2 ≤ m := hk.out.2.2
          have hk4 : e + 1 + mult p (m2 / p) = mult p m ∧ strip p (m2 / p) = strip p m ∧ e + 1 + m2 / p ≤ m := by
            obtain ⟨h5, h6, h7⟩ := hk.out
            have h8 := HQ.out
            have h9 := HQ4.out
            exact ⟨by omega, by omega, by omega⟩
          have HK := hid_ hk4; clear hk4
          go_wp2
          go_roundw
          case rel =>
            have n1 : ((e : Int) + 1) = ((e + 1 : Nat) : Int) := by omega
            refine ⟨m2 / p, e + 1, by go_num, q2, by omega, by omega, HK, ?_, ?_, ?_, ?_, ?_, ?_⟩
            · rw [cell_set_off (by omega)]; exact c0
            · rw [n1]; exact World.cell?_setCell_same _ _ _ c1
            · rw [World.frozen?_setCell]; exact f1
            · simpa [World.setCell] using s1
            · exact ownsRow_setCell_ne own1 hne _
            · exact hx3.setCell hbase _
          case measure => simp [intOf]; omega
        · have hd' : ((m2 : Int) % (p : Int) == 0) = false := by simp; omega
          obtain ⟨h5, h6, h7⟩ := hk.out
          rw [mult_zero hd] at h5
          rw [strip_zero hd] at h6
          have H5 := hid_ h5
          have H6 := hid_ h6
          clear h5 h6 h7 hd hk
          have hpk := pow_len hln.out m0 h1
          go_wp2_with (at_builtin; refine wpList_append_own _ rfl _ _ 24 rfl w.heap.size 29 ip (.agg #[.int .i64 0, .int .i64 0]) 2 16 Try.underlying24 hip hz0 hz1 hz2 rfl (by decide) _ _ _ rfl (own1.alloc _) ⟨wr.heap.size, 0, none⟩ 1 1 [.int .i64 p, .int .i64 e] rfl rfl ?c1 ?c2 ?c3 ?c4 ?c5 ?_)
          case c1 => exact hnews2 _ _ _ _
          case c2 => simp [Value.oneCell']
          case c3 => unfold maxLen; omega
          case c4 => omega
          case c5 => simp; have := hx3.size; omega
          intro v' w3 hown3 hg3 hnil3
          have hx4 : Ex w w3 := Below.grown (hx3.alloc _) hg3 (by have := hx3.size; simp; omega) (fun k hk => (own1.lt k hk).1)
          have hown4 : w3.ownsRow w.heap.size 29 2 v' (l ++ [(p, e)]).length (flat (l ++ [(p, e)])) := by
            rw [flat_snoc, List.length_append]; exact hown3
          clear hown3 hg3 hnil3 own1 c0 c1 f1 s1
          go_wp2
          go_roundw
          case rel =>
            refine ⟨m2, l ++ [(p, e)], rfl, k1, k2, ?_, ?_, hown4, hx4⟩
            · apply hid_
              rw [← hl.out, facs_cons hm, HP.out, ← H6.out, ← H5.out]
              simp
            · apply hid_
              have h8 := strip_le p2 m0 HL.out.2.1
              rw [← H6.out] at h8
              rw [List.length_append, List.length_singleton, Nat.pow_succ]
              have h9 := hln.out
              have h10 := Nat.mul_le_mul p2 (Nat.le_refl m2)
              have h11 : 2 ^ l.length * 2 * m2 ≤ 2 ^ l.length * m := by
                rw [Nat.mul_assoc]; exact Nat.mul_le_mul_left _ (by omega)
              omega
          case measure =>
            have h8 := strip_le p2 m0 HL.out.2.1
            rw [← H6.out] at h8
            have h10 := Nat.mul_le_mul p2 (Nat.le_refl m2)
            simp [intOf]; omega
    · obtain rfl : m = 1 := by omega
      have hl' := hl.out
      rw [facs_one (Nat.le_refl _), List.append_nil] at hl'
      subst hl'
      go_wp2
      go_ret2
      exact ⟨_, rfl, Sl.own hown, hx⟩

end Go.Proofs.Ytdnmhjpeklaijaa
