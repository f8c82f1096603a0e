/- Walks of the reference's Divisors and Order. -/
import Derived.Test.YtdnmhjpeklaijaaNumV
import Derived.Test.YtdnmhjpeklaijaaNumT
import Derived.Maps.AppendAt
namespace Go.Proofs.Ytdnmhjpeklaijaa
set_option linter.unusedVariables false
set_option linter.unusedSimpArgs false
open Go.RowKit

theorem infoI : (Try.prog.info? 3).map (fun i => (i.zero, i.size, i.bytes)) = some (some (.int .i64 0), 1, 8) := by kernel_rfl

theorem rDivisors_no (n : Int) (w : World) (h : ¬ (1 ≤ n ∧ n ≤ 2147483647)) :
    Calls Try.prog 44 #[.int .i64 n] w fun r w' => r = .returned (.tuple #[.slice none 0 0, .int .i64 6]) ∧ Ex w w' := by
  have hin : inB 1 n = false := inB_false h
  clear h
  go_enter Try.func44, Try.ntmps44
  go_wp2_with (go_at_call 53; refine (rin_any _ _).mono ?_; rintro e w1 ⟨rfl, rfl⟩)
  go_ret2
  exact ⟨rfl, Ex.refl _⟩

/-- Two slices of the call's own lie in different rows. -/
def Apart (u v : Value) : Prop := u.ownBlock = none ∨ u.ownBlock ≠ v.ownBlock
theorem Apart.symm {u v : Value} (h : Apart u v) : Apart v u := by
  unfold Apart at *
  rcases h with h | h
  · rw [h]
    cases v.ownBlock
    · exact .inl rfl
    · exact .inr (by simp)
  · exact .inr (fun e => h e.symm)
theorem Apart.after {u u' v : Value} {s : Nat} (h : Apart u v) (hv : ∀ k, v.ownBlock = some k → k < s) (hat : u'.ownBlock = u.ownBlock ∨ u'.ownBlock = some s) : Apart u' v := by
  rcases hat with hat | hat
  · unfold Apart at *; rw [hat]; exact h
  · refine .inr fun he => ?_
    rw [hat] at he
    exact Nat.lt_irrefl _ (hv _ he.symm)

def nis (L : List Nat) : List Value := L.map fun (d : Nat) => Value.int .i64 (d : Int)

set_option maxRecDepth 100000 in
set_option maxHeartbeats 2000000 in
theorem rDivisors_yes (n : Nat) (w : World) (h0 : 1 ≤ n) (h1 : n ≤ 2147483647) :
    Calls Try.prog 44 #[.int .i64 n] w fun r w' => ∃ v L, r = .returned (.tuple #[v, .int .i64 0]) ∧ IsDivs n L ∧ Sl w' v L.length 1 (nis L) ∧ Ex w w' := by
  have hin : inB 1 n = true := inB_mk (by omega) (by omega)
  obtain ⟨ii, hii, hz0, hz1, hz2⟩ := info_parts infoI
  go_enter Try.func44, Try.ntmps44
  go_wp2_with (go_at_call 53; refine (rin_any _ _).mono ?_; rintro e w1 ⟨rfl, rfl⟩)
  go_loopw [4, 5, 6] (fun l' h' d' wr => ∃ k : Nat, d' = .int .i64 ((k + 1 : Nat) : Int) ∧ k * k ≤ n ∧ k ≤ 46340 ∧ wr.ownsRow w.heap.size 3 1 l' (lowL n k).length (nis (lowL n k)) ∧ wr.ownsRow w.heap.size 3 1 h' (highL n k).length (nis (highL n k)) ∧ Hid (Apart l' h') ∧ Ex w wr) (fun _ _ d' _ => 46342 - (intOf d').toNat)
  case atStart => exact ⟨0, rfl, by omega, by omega, World.ownsRow_nil _ _ _ _, World.ownsRow_nil _ _ _ _, hid_ (.inl rfl), Ex.refl _⟩
  case round =>
    obtain ⟨k, rfl, k1, k2, hlo, hhi, hne, hx⟩ := hrel
    have m0 : ((k : Int) + 1) * ((k : Int) + 1) = (((k + 1) * (k + 1) : Nat) : Int) := by simp
    have m1 : (k + 1) * (k + 1) ≤ 46341 * 46341 := Nat.mul_le_mul (by omega) (by omega)
    have HLL := hid_ (lowL_len n k)
    have HHL := hid_ (highL_len n k)
    by_cases hle : (k + 1) * (k + 1) ≤ n
    · have hle' : ((k : Int) + 1) * ((k : Int) + 1) ≤ (n : Int) := by omega
      have m2 : ((k : Int) + 1) * ((k : Int) + 1) ≤ 9223372036854775807 := by omega
      have m3 : 0 ≤ ((k : Int) + 1) * ((k : Int) + 1) := by omega
      have k4 : k + 1 ≤ 46340 := by
        rcases Nat.lt_or_ge 46340 (k + 1) with h | h
        · have := Nat.mul_le_mul h h; omega
        · exact h
      by_cases hd : n % (k + 1) = 0
      · have hd' : ((n : Int) % ((k : Int) + 1) == 0) = true := by
          have : (n : Int) % ((k : Int) + 1) = ((n % (k + 1) : Nat) : Int) := by simp
          rw [this, hd]; rfl
        have HD := hid_ hd
        clear m0 m1 hd
        have e1 : lowL n (k + 1) = lowL n k ++ [k + 1] := by simp only [lowL]; rw [if_pos HD.out]
        have hll := HLL.out
        have hhl := HHL.out
        have E1 := hid_ e1
        clear e1
        go_wp2_with (at_builtin; refine wpList_append_own_at _ rfl _ _ 36 rfl w.heap.size 3 ii (.int .i64 0) 1 8 Try.underlying36 hii hz0 hz1 hz2 rfl (by decide) _ _ _ rfl (hlo.alloc _) ⟨wr.heap.size, 0, none⟩ 1 1 [.int .i64 ((k : Int) + 1)] rfl rfl ?c1 ?c2 ?c3 ?c4 ?c5 ?_)
        case c3 => unfold maxLen; omega
        case c4 => omega
        case c2 => simp [Value.oneCell']
        case c1 => exact cell_one_new _ _ _
        case c5 => exact Nat.le_trans hx.size (by simp)
        intro v' w4 hown4 hg4 hnil4 hat4
        have hx5 : Ex w w4 := Ex.grown (hx.alloc _) (hlo.alloc _) (Nat.le_refl _) hg4
        have hlo5 : w4.ownsRow w.heap.size 3 1 v' (lowL n (k + 1)).length (nis (lowL n (k + 1))) := by
          rw [E1.out]; simpa [nis] using hown4
        have hhi5 : w4.ownsRow w.heap.size 3 1 u5 (highL n k).length (nis (highL n k)) := (hhi.alloc _).kept hg4 hne.out.symm
        have hap5 := hid_ (hne.out.after (fun k hk => Nat.lt_succ_of_lt (hhi.lt k hk).2) hat4)
        clear hown4 hg4 hnil4 hat4 hlo hhi hne hx
        have hqn : (n : Int) / ((k : Int) + 1) = ((n / (k + 1) : Nat) : Int) := by simp
        by_cases hdd : k + 1 = n / (k + 1)
        · have e2 : highL n (k + 1) = highL n k := by simp only [highL]; rw [if_neg (by omega)]
          have hq : (n : Int) / ((k : Int) + 1) = (k : Int) + 1 := by omega
          have E2 := hid_ e2
          clear hdd hqn e2
          go_wp2_with fail
          go_roundw
          case rel => exact ⟨k + 1, by go_num, hle, k4, hlo5, by rw [E2.out]; exact hhi5, hap5, hx5⟩
          case measure => simp [intOf]; omega
        · have e2 : highL n (k + 1) = highL n k ++ [n / (k + 1)] := by simp only [highL]; rw [if_pos ⟨HD.out, hdd⟩]
          have E2 := hid_ e2
          have hqle := Nat.div_le_self n (k + 1)
          clear e2
          generalize n / (k + 1) = q at *
          have hq2 : ((k : Int) + 1 == (q : Int)) = false := by simp; omega
          have HLE := hid_ hle
          clear hdd hle hle' m2 m3 hd'
          go_wp2_with (at_builtin; refine wpList_append_own_at _ rfl _ _ 36 rfl w.heap.size 3 ii (.int .i64 0) 1 8 Try.underlying36 hii hz0 hz1 hz2 rfl (by decide) _ _ _ rfl (hhi5.alloc _) ⟨w4.heap.size, 0, none⟩ 1 1 [.int .i64 (q : Int)] rfl rfl ?c1 ?c2 ?c3 ?c4 ?c5 ?_)
          case c3 => unfold maxLen; omega
          case c4 => omega
          case c2 => simp [Value.oneCell']
          case c1 => exact cell_one_new _ _ _
          case c5 => exact Nat.le_trans hx5.size (by simp)
          intro v6 w6 hown6 hg6 hnil6 hat6
          have hx7 : Ex w w6 := Ex.grown (hx5.alloc _) (hhi5.alloc _) (Nat.le_refl _) hg6
          have hhi7 : w6.ownsRow w.heap.size 3 1 v6 (highL n (k + 1)).length (nis (highL n (k + 1))) := by
            rw [E2.out]; simpa [nis] using hown6
          have hlo7 : w6.ownsRow w.heap.size 3 1 v' (lowL n (k + 1)).length (nis (lowL n (k + 1))) := (hlo5.alloc _).kept hg6 hap5.out
          have hap7 := hid_ ((hap5.out.symm.after (fun k hk => Nat.lt_succ_of_lt (hlo5.lt k hk).2) hat6).symm)
          clear hown6 hg6 hnil6 hat6 hlo5 hhi5 hap5 hx5
          go_wp2_with fail
          go_roundw
          case rel => exact ⟨k + 1, by go_num, HLE.out, k4, hlo7, hhi7, hap7, hx7⟩
          case measure => simp [intOf]; omega
      · have hd' : ((n : Int) % ((k : Int) + 1) == 0) = false := by
          have : (n : Int) % ((k : Int) + 1) = ((n % (k + 1) : Nat) : Int) := by simp
          rw [this]; simp; omega
        have e1 : lowL n (k + 1) = lowL n k := by simp only [lowL]; rw [if_neg hd]
        have e2 : highL n (k + 1) = highL n k := by simp only [highL]; rw [if_neg (by omega)]
        have E1 := hid_ e1
        have E2 := hid_ e2
        clear m0 m1 e1 e2
        go_wp2
        go_roundw
        case rel => exact ⟨k + 1, by go_num, hle, k4, by rw [E1.out]; exact hlo, by rw [E2.out]; exact hhi, hne, hx⟩
        case measure => simp [intOf]; omega
    · have hL := hid_ (refDivs h0 k1 (by omega))
      clear m0
      generalize k + 1 = d at *
      obtain ⟨sq, hsq⟩ : ∃ sq, (d : Int) * (d : Int) = sq := ⟨_, rfl⟩
      have hsq2 : sq = ((d * d : Nat) : Int) := by rw [← hsq]; simp
      have hle' : (n : Int) < sq := by omega
      have m2 : sq ≤ 9223372036854775807 := by omega
      have m3 : 0 ≤ sq := by omega
      clear m1 hle hsq2
      generalize highL n k = H at *
      generalize lowL n k = Lo at *
      obtain ⟨_, ha, hcap, hh1, hh2, hh3, hh4⟩ := Sl.own hhi
      subst hh1
      obtain ⟨_, la, lcap, ll1, ll2, ll3, ll4⟩ := Sl.own hlo
      subst ll1
      unfold maxLen at hh3 ll3
      have HH4 := hid_ hh4
      have LL4 := hid_ ll4
      clear hh4 ll4
      have hhl := HHL.out
      have hll := HLL.out
      go_wp2_with fail
      have hlen1 : H.length ≤ 46340 := by omega
      have hlen2 : Lo.length ≤ 46340 := by omega
      clear HLL HHL HH4 LL4
      go_loopw [4, 7] (fun l' i' wx => ∃ j : Nat, i' = .int .i64 ((H.length : Int) - 1 - j) ∧ j ≤ H.length ∧ wx.ownsRow w.heap.size 3 1 l' (Lo ++ H.reverse.take j).length (nis (Lo ++ H.reverse.take j)) ∧ wx.ownsRow w.heap.size 3 1 (.slice ha H.length hcap) H.length (nis H) ∧ Hid (Apart l' (.slice ha H.length hcap)) ∧ Ex w wx) (fun _ i' _ => (intOf i' + 1).toNat)
      case atStart => exact ⟨0, by simp, by omega, by simpa using hlo, hhi, hne, hx⟩
      case round =>
        clear hlo hhi hne hx
        obtain ⟨j, rfl, hj, hlo, hhi, hne, hx⟩ := hrel
        by_cases hlt : j < H.length
        · obtain ⟨y, hy⟩ : ∃ y, H[H.length - 1 - j]? = some y := ⟨_, List.getElem?_eq_getElem (by omega)⟩
          obtain ⟨_, aa, cap', he, s1, s2, s3⟩ := Sl.own hhi
          injection he with he1 he2 he3
          subst he1; subst he3
          obtain ⟨b, o, rfl, hc⟩ := s3 (by omega)
          have c1 := hc (H.length - 1 - j) (.int .i64 (y : Int)) (by unfold nis; rw [List.getElem?_map, hy]; rfl)
          have hry : H.reverse[j]? = some y := by rw [List.getElem?_reverse hlt]; exact hy
          have hst : Lo ++ H.reverse.take (j + 1) = (Lo ++ H.reverse.take j) ++ [y] := by rw [take_snoc_ hry, List.append_assoc]
          have hlen3 : (Lo ++ H.reverse.take j).length ≤ 92680 := by rw [List.length_append, List.length_take]; omega
          have HST := hid_ hst
          have hi0 : (0 : Int) ≤ (H.length : Int) - 1 - (j : Int) := by omega
          have hidx : ((H.length : Int) - 1 - (j : Int)).toNat = H.length - 1 - j := by omega
          clear hc s3 hy hry hst
          generalize Lo ++ H.reverse.take j = X at *
          go_wp2_with (at_builtin; refine wpList_append_own_at _ rfl _ _ 36 rfl w.heap.size 3 ii (.int .i64 0) 1 8 Try.underlying36 hii hz0 hz1 hz2 rfl (by decide) _ _ _ rfl (hlo.alloc _) ⟨wr.heap.size, 0, none⟩ 1 1 [.int .i64 (y : Int)] rfl rfl ?c1 ?c2 ?c3 ?c4 ?c5 ?_)
          case c3 => unfold maxLen; omega
          case c4 => omega
          case c2 => simp [Value.oneCell']
          case c5 => exact Nat.le_trans hx.size (by simp)
          intro v' w4 hown4 hg4 hnil4 hat4
          have hx5 : Ex w w4 := Ex.grown (hx.alloc _) (hlo.alloc _) (Nat.le_refl _) hg4
          have hlo5 : w4.ownsRow w.heap.size 3 1 v' (X ++ [y]).length (nis (X ++ [y])) := by simpa [nis] using hown4
          have hhi5 := (hhi.alloc (.cells #[.int .i64 (y : Int)] 3)).kept hg4 hne.out.symm
          have hap5 := hid_ (hne.out.after (fun k hk => Nat.lt_succ_of_lt (hhi.lt k hk).2) hat4)
          clear hown4 hg4 hnil4 hat4 hlo hhi hne hx
          go_wp2_with fail
          go_roundw
          case rel => exact ⟨j + 1, by go_num, by omega, by rw [HST.out]; exact hlo5, hhi5, hap5, hx5⟩
          case measure => simp [intOf]; omega
        · obtain rfl : j = H.length := by omega
          have hfin : Lo ++ H.reverse.take H.length = Lo ++ H.reverse := by rw [List.take_of_length_le (by simp)]
          rw [hfin] at hlo
          go_wp2_with fail
          go_ret2
          exact ⟨_, _, rfl, hL.out, Sl.own hlo, hx⟩

theorem nis_open {w : World} {v : Value} {L : List Nat} (h : Sl w v L.length 1 (nis L)) : ∃ a cap, v = .slice a L.length cap ∧ L.length ≤ cap ∧ cap ≤ maxLen ∧
    Hid (0 < L.length → ∃ b o, a = some ⟨b, o, none⟩ ∧ ∀ (k d : Nat), L[k]? = some d → w.cell? ⟨b, o + k, none⟩ = some (.int .i64 (d : Int))) := by
  obtain ⟨h1, a, cap, h2, h3, h4, h5⟩ := h
  refine ⟨a, cap, h2, h3, h4, hid_ fun hn => ?_⟩
  obtain ⟨b, o, h6, h7⟩ := h5 hn
  refine ⟨b, o, h6, fun k d hd => h7 _ _ ?_⟩
  unfold nis; rw [List.getElem?_map, hd]; rfl

theorem isDivs_len {n : Nat} {L : List Nat} (hn : 1 ≤ n) (h : IsDivs n L) : L.length ≤ n := by
  have key : ∀ (L : List Nat) (b : Nat), L.Pairwise (· < ·) → (∀ d ∈ L, b ≤ d ∧ d ≤ n) → b + L.length ≤ n + 1 ∨ L = [] := by
    intro L
    induction L with
    | nil => intro b _ _; exact .inr rfl
    | cons x L ih =>
      intro b hp hb
      left
      obtain ⟨h1, h2⟩ := List.pairwise_cons.1 hp
      obtain ⟨b1, b2⟩ := hb x (List.mem_cons_self ..)
      rcases ih (x + 1) h2 (fun d hd => ⟨h1 d hd, (hb d (List.mem_cons_of_mem _ hd)).2⟩) with h3 | h3
      · simp only [List.length_cons]; omega
      · subst h3; simp; omega
  rcases key L 1 h.1 (fun d hd => h.pos hn d hd) with h1 | h1
  · omega
  · subst h1; simp

theorem rOrder_no (a n : Int) (w : World) (h : ¬ (1 ≤ n ∧ n ≤ 2147483647)) :
    Calls Try.prog 25 #[.int .i64 a, .int .i64 n] w fun r w' => r = .returned (.tuple #[.int .i64 0, .int .i64 6]) ∧ Ex w w' := by
  have c := fun w => rPhi_no n w h
  clear h
  go_enter Try.func25, Try.ntmps25
  go_wp2_with (first | (go_at_call 58; refine (c _).mono ?_; rintro e w1 ⟨rfl, hx⟩))
  go_ret2
  exact ⟨rfl, hx⟩

set_option maxRecDepth 100000 in
set_option maxHeartbeats 2000000 in
theorem rOrder_in (a : Int) (n : Nat) (w : World) (h1 : 1 ≤ n) (h2 : n ≤ 2147483647) (a1 : -9223372036854775808 ≤ a) (a2 : a ≤ 9223372036854775807) :
    Calls Try.prog 25 #[.int .i64 a, .int .i64 n] w fun r w' => ∃ o e : Int, r = .returned (.tuple #[.int .i64 o, .int .i64 e]) ∧ ((Int.gcd (a % n) n = 1 ∧ o = ordP a n ∧ e = 0) ∨ (Int.gcd (a % n) n ≠ 1 ∧ o = 0 ∧ e = 11)) ∧ Ex w w' := by
  have hphi1 := phi_pos h1
  have hphi2 : phi n ≤ n := phiGo_le _ _
  have HFO := fun (L : List Nat) (hL : IsDivs (phi n) L) => hid_ (fun k d hg hk hP hb => first_order (a := a) h1 hg (k := k) (d := d) hL hk hP hb)
  have HOE := fun (L : List Nat) (hL : IsDivs (phi n) L) => hid_ (fun hg => order_exists (a := a) h1 hg hL)
  have HGC := hid_ (fun k hk h => PO.gcd (a := a) (n := n) (k := k) h1 hk h)
  go_enter Try.func25, Try.ntmps25
  go_wp2_with fail
  refine (rPhi_yes n _ h1 h2).mono ?_
  rintro e w1 ⟨rfl, hx1⟩
  go_wp2_with fail
  refine (rDivisors_yes (phi n) _ hphi1 (by omega)).mono ?_
  rintro e w2 ⟨v, L, rfl, hL, hsl, hx2⟩
  obtain ⟨la, cap, rfl, s1, s2, s3⟩ := nis_open hsl
  have HL := hid_ hL
  have hlen := isDivs_len hphi1 hL
  have hfo := HFO L hL
  have hoe := HOE L hL
  unfold maxLen at s2
  clear hsl hL HFO HOE
  generalize phi n = f at *
  go_wp2_with fail
  go_loopw [10] (fun i' wr => ∃ i : Nat, i' = .int .i64 i ∧ i ≤ L.length ∧ Hid (∀ j e, j < i → L[j]? = some e → ¬ PO a n e) ∧ Ex w2 wr) (fun i' _ => L.length - (intOf i').toNat)
  case atStart => exact ⟨0, rfl, by omega, hid_ (fun j e hj => by omega), Ex.refl _⟩
  case round =>
    obtain ⟨i, rfl, hi, hno, hx⟩ := hrel
    by_cases hlt : i < L.length
    · obtain ⟨d, hd⟩ : ∃ d, L[i]? = some d := ⟨_, List.getElem?_eq_getElem hlt⟩
      obtain ⟨b, o, rfl, hc⟩ := s3.out (by omega)
      have c1 := hx.cell (hc i d hd)
      have hdf : d ≤ f := (HL.out.pos hphi1 d (List.mem_of_getElem? hd)).2
      have hd1 : 1 ≤ d := (HL.out.pos hphi1 d (List.mem_of_getElem? hd)).1
      have HD := hid_ hd
      clear hc hd
      by_cases hP : PO a n d
      · have HPP := hid_ hP
        have ht : (a ^ d % (n : Int) == 1 % (n : Int)) = true := by rw [beq_iff_eq]; exact hP
        have hg := HGC.out d hd1 hP
        have hres := hfo.out i d hg HD.out hP hno.out
        have HRES := hid_ hres
        clear hP hres
        go_wp2_with fail
        refine (rpower_any a d n _ (by omega) (by omega) a1 a2 (by omega) (by omega)).mono ?_
        rw [Int.toNat_natCast]
        rintro e w3 ⟨rfl, rfl⟩
        go_wp2_with fail
        refine (rmod_any 1 n _ (by omega) (by omega) (by omega) (by omega)).mono ?_
        rintro e w3 ⟨rfl, rfl⟩
        go_wp2_with fail
        go_ret2
        exact ⟨_, _, rfl, .inl ⟨hg, by rw [HRES.out], rfl⟩, (hx1.trans hx2).trans hx⟩
      · have HPP := hid_ hP
        have ht : (a ^ d % (n : Int) == 1 % (n : Int)) = false := by rw [beq_eq_false_iff_ne]; exact hP
        clear hP
        go_wp2_with fail
        refine (rpower_any a d n _ (by omega) (by omega) a1 a2 (by omega) (by omega)).mono ?_
        rw [Int.toNat_natCast]
        rintro e w3 ⟨rfl, rfl⟩
        go_wp2_with fail
        refine (rmod_any 1 n _ (by omega) (by omega) (by omega) (by omega)).mono ?_
        rintro e w3 ⟨rfl, rfl⟩
        go_wp2_with fail
        go_roundw
        case rel =>
          refine ⟨i + 1, by go_num, by omega, hid_ (fun j e hj he => ?_), hx⟩
          rcases Nat.eq_or_lt_of_le (Nat.le_of_lt_succ hj) with h3 | h3
          · subst h3
            rw [HD.out] at he
            cases he
            exact HPP.out
          · exact hno.out j e h3 he
        case measure => simp [intOf]; omega
    · obtain rfl : i = L.length := by omega
      go_wp2_with fail
      go_ret2
      refine ⟨_, _, rfl, .inr ⟨fun hg => ?_, rfl, rfl⟩, (hx1.trans hx2).trans hx⟩
      obtain ⟨e, he, hP⟩ := hoe.out hg
      obtain ⟨j, hj⟩ := List.mem_iff_getElem?.1 he
      exact hno.out j e (List.getElem?_eq_some_iff.1 hj).1 hj hP
end Go.Proofs.Ytdnmhjpeklaijaa
