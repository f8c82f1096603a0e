/- Walks of the reference's Check, all, group, and of perm.generators. -/
import Derived.Test.YtgfdhclpffakfaaGreatZa10
namespace Go.Proofs.YtgfdhclpffakfaaGreat
set_option linter.unusedVariables false
set_option linter.unusedSimpArgs false
open Go.RowKit

set_option maxRecDepth 100000 in
set_option maxHeartbeats 2000000 in
theorem rCheck_any (w : World) (l : List Int) (v : Value) (hl : ISl w v l) :
    Calls Tryz.prog 8 #[v] w fun r w' => r = .returned (.int .i64 (pchk l)) ∧ ∃ q, w' = w.drewN q := by
  obtain ⟨a, cap, rfl, s1, s2, s3⟩ := hl.open
  unfold maxLen at s2
  have S3 := hid_ s3
  clear s3 hl
  by_cases hd1 : (l.length : Int) < 1
  · have HP := hid_ (show pchk l = 4 from if_pos (.inl hd1))
    go_enter Tryz.func8, Tryz.ntmps8
    go_wp2_with fail
    go_ret
    exact ⟨ret_int HP.out.symm, 0, rfl⟩
  by_cases hd2 : 64 < (l.length : Int)
  · have HP := hid_ (show pchk l = 4 from if_pos (.inr hd2))
    go_enter Tryz.func8, Tryz.ntmps8
    go_wp2_with fail
    go_ret
    exact ⟨ret_int HP.out.symm, 0, rfl⟩
  have HLN := hid_ (show 1 ≤ l.length ∧ l.length ≤ 64 from by omega)
  have hl64 := HLN.out.2
  have d1 : decide ((l.length : Int) < 1) = false := by simp; omega
  have d2 : decide (64 < (l.length : Int)) = false := by simp; omega
  clear hd1 hd2
  go_enter Tryz.func8, Tryz.ntmps8
  go_wp2_with fail
  go_loopw [4] (fun k' wr => ∃ (k : Nat), k ≤ l.length ∧ k' = .int .i64 k ∧ Hid (∀ (i : Nat) (x : Int), i < k → l[i]? = some x → 0 ≤ x ∧ x < l.length) ∧ wr = w) (fun k' _ => l.length - (intOf k').toNat)
  case atStart => exact ⟨0, by omega, rfl, hid_ (fun i x h => by omega), rfl⟩
  case round =>
    obtain ⟨k, hk, rfl, hall, rfl⟩ := hrel
    by_cases hkn : k < l.length
    · obtain ⟨b, o, rfl, hc⟩ := S3.out (by omega)
      obtain ⟨x, hxk⟩ : ∃ x, l[k]? = some x := ⟨_, List.getElem?_eq_getElem hkn⟩
      have c1 := hc k x hxk
      have i1 : (0 : Int) ≤ (k : Int) := by omega
      have i2 : (k : Int) < (l.length : Int) := by omega
      by_cases h1 : x < 0
      · have HP := hid_ (show pchk l = 6 from by unfold pchk; rw [if_neg (by have := HLN.out; omega), if_pos ⟨x, List.mem_of_getElem? hxk, .inl h1⟩])
        clear hc hxk hall
        go_wp2_with fail
        go_ret
        exact ⟨ret_int HP.out.symm, 0, rfl⟩
      · by_cases h2 : (l.length : Int) ≤ x
        · have HP := hid_ (show pchk l = 6 from by unfold pchk; rw [if_neg (by have := HLN.out; omega), if_pos ⟨x, List.mem_of_getElem? hxk, .inr h2⟩])
          clear hc hxk hall
          go_wp2_with fail
          go_ret
          exact ⟨ret_int HP.out.symm, 0, rfl⟩
        · have HA := hid_ (show ∀ (i : Nat) (y : Int), i < k + 1 → l[i]? = some y → 0 ≤ y ∧ y < l.length from fun i y hi hy => by
            by_cases e : i = k
            · subst e; rw [hxk] at hy; injection hy with hy; omega
            · exact hall.out i y (by omega) hy)
          clear hc hxk hall
          go_wp2_with fail
          go_roundw
          case rel => exact ⟨k + 1, by omega, by go_num, HA, by first | trivial | rfl⟩
          case measure => simp [intOf]; omega
    · obtain rfl : k = l.length := by omega
      have HRG := hid_ (show ∀ (i : Nat) (x : Int), l[i]? = some x → 0 ≤ x ∧ x < l.length from fun i x h => hall.out i x (List.getElem?_eq_some_iff.1 h).1 h)
      have HPC := hid_ (show pchk l = if l.Nodup then 0 else 18 from by
        unfold pchk; rw [if_neg (by have := HLN.out; omega), if_neg]
        rintro ⟨x, hx, h⟩
        obtain ⟨i, hi, rfl⟩ := List.getElem_of_mem hx
        have := HRG.out i _ (List.getElem?_eq_getElem hi)
        omega)
      clear hall
      go_wp2_with fail
      go_loopw [5] (fun k' w2 => ∃ (k q : Nat), k ≤ l.length ∧ k' = .int .i64 k ∧ Hid (∀ i j, j < i → i < k → l[i]? ≠ l[j]?) ∧ w2 = wr.drewN q) (fun k' _ => l.length - (intOf k').toNat)
      case atStart => exact ⟨0, 0, by omega, rfl, hid_ (fun i j h1 h2 => by omega), rfl⟩
      case round =>
        obtain ⟨k, q, hk, rfl, hall, rfl⟩ := hrel
        by_cases hkn : k < l.length
        · obtain ⟨b, o, rfl, hc⟩ := S3.out (by omega)
          have HC := hid_ hc
          obtain ⟨x, hxk⟩ : ∃ x, l[k]? = some x := ⟨_, List.getElem?_eq_getElem hkn⟩
          have HXK := hid_ hxk
          have D1 := hid_ (((Ex.refl wr).drewN q).cell (hc k x hxk))
          have i1 : (0 : Int) ≤ (k : Int) := by omega
          have i2 : (k : Int) < (l.length : Int) := by omega
          clear hc hxk
          go_wp2_with fail
          go_loopw [6] (fun j' w3 => ∃ (j n : Nat), j ≤ k ∧ j' = .int .i64 j ∧ Hid (∀ i, i < j → l[i]? ≠ l[k]?) ∧ w3 = wr.drewN n) (fun j' _ => k - (intOf j').toNat)
          case atStart => exact ⟨0, q, by omega, rfl, hid_ (fun i h1 => by omega), rfl⟩
          case round =>
            clear D1
            obtain ⟨j, n, hj, rfl, hin, rfl⟩ := hrel
            by_cases hjk : j < k
            · obtain ⟨y, hy⟩ : ∃ y, l[j]? = some y := ⟨_, List.getElem?_eq_getElem (by omega)⟩
              have c1 := ((Ex.refl wr).drewN n).cell (HC.out k x HXK.out)
              have c2 := ((Ex.refl wr).drewN n).cell (HC.out j y hy)
              have i3 : (0 : Int) ≤ (j : Int) := by omega
              have i4 : (j : Int) < (l.length : Int) := by omega
              obtain ⟨W, hW⟩ : ∃ W, wr.drewN n = W := ⟨_, rfl⟩
              rw [hW] at c1 c2 ⊢
              have HWE := hid_ hW
              have i5 : (j : Int) < (k : Int) := by omega
              have ib : decide ((j : Int) < (k : Int)) = true := by simp; omega
              have ib2 : decide (j < k) = true := by simp; omega
              clear hW
              by_cases hxy : x = y
              · have HP := hid_ (show pchk l = 18 from by
                  rw [HPC.out, if_neg]
                  intro h
                  exact nodup_iff_idx.1 h k j hjk hkn (by rw [HXK.out, hy, hxy]))
                have hbb : (x == y) = true := by simpa using hxy
                clear hy hxy hin hall
                go_wp2_with fail
                go_quiet (fail)
                go_wp2_with fail
                go_ret
                exact ⟨ret_int HP.out.symm, _, by rw [← HWE.out, World.drewN_drewN]⟩
              · have HIN := hid_ (show ∀ i, i < j + 1 → l[i]? ≠ l[k]? from fun i hi e => by
                  by_cases e2 : i = j
                  · subst e2; rw [hy, HXK.out] at e; injection e with e; exact hxy e.symm
                  · exact hin.out i (by omega) e)
                have hbb : (x == y) = false := by simpa using hxy
                clear hy hxy hin
                go_wp2_with fail
                go_quiet (fail)
                go_wp2_with fail
                go_roundw
                case rel => exact ⟨j + 1, _, by omega, by go_num, HIN, by rw [← HWE.out, World.drewN_drewN]⟩
                case measure => simp [intOf]; omega
            · obtain rfl : j = k := by omega
              have HA := hid_ (show ∀ i t, t < i → i < j + 1 → l[i]? ≠ l[t]? from fun i t h1 h2 e => by
                by_cases e2 : i = j
                · subst e2; exact hin.out t h1 e.symm
                · exact hall.out i t h1 (by omega) e)
              clear hin hall
              go_wp2_with fail
              go_roundw
              case rel => first | exact ⟨j + 1, n, by omega, by go_num, HA, rfl⟩ | ((repeat apply Exists.intro); exact ⟨⟨j + 1, n, by omega, by go_num, HA, rfl⟩, rfl⟩)
              case measure => simp [intOf]; omega
        · obtain rfl : k = l.length := by omega
          have HP := hid_ (show pchk l = 0 from by
            rw [HPC.out, if_pos]
            exact nodup_iff_idx.2 fun i j h1 h2 => hall.out i j h1 h2)
          clear hall
          go_wp2_with fail
          go_ret
          exact ⟨ret_int HP.out.symm, q, rfl⟩
set_option maxRecDepth 100000 in
set_option maxHeartbeats 2000000 in
theorem rall_any (w : World) (n : Int) (rows : List (List Int)) (v : Value) (hv : MSl w v rows) :
    Calls Tryz.prog 86 #[.int .i64 n, v] w fun r w' => r = .returned (.int .i64 (allS n rows)) ∧ ∃ q, w' = w.drewN q := by
  obtain ⟨a, cap, rfl, s1, s2, s3⟩ := hv.open
  unfold maxLen at s2
  have S3 := hid_ s3
  clear s3 hv
  go_enter Tryz.func86, Tryz.ntmps86
  go_wp2_with fail
  go_loopw [5, 6] (fun k' _ wr => ∃ (k q : Nat), k ≤ rows.length ∧ k' = .int .i64 k ∧ Hid (∀ (i : Nat) (r : List Int), i < k → rows[i]? = some r → pchk r = 0) ∧ wr = w.drewN q) (fun k' _ _ => rows.length - (intOf k').toNat)
  case atStart => exact ⟨0, 0, by omega, rfl, hid_ (fun i x h => by omega), rfl⟩
  case round =>
    obtain ⟨k, q, hk, rfl, hall, rfl⟩ := hrel
    by_cases hkn : k < rows.length
    · obtain ⟨b, o, rfl, hc⟩ := S3.out (by omega)
      obtain ⟨r, hrk⟩ : ∃ r, rows[k]? = some r := ⟨_, List.getElem?_eq_getElem hkn⟩
      obtain ⟨u, c1, hu⟩ := hc k r hrk
      have c1 := ((Ex.refl w).drewN q).cell c1
      have i1 : (0 : Int) ≤ (k : Int) := by omega
      have i2 : (k : Int) < (rows.length : Int) := by omega
      have HCH := hid_ (rCheck_any (w.drewN q) r u (hu.ex ((Ex.refl w).drewN q)))
      obtain ⟨e, he⟩ : ∃ e, pchk r = e := ⟨_, rfl⟩
      rw [he] at HCH
      have HRK := hid_ hrk
      have HE := hid_ he
      by_cases h0 : e = 0
      · have HA := hid_ (show ∀ (i : Nat) (s : List Int), i < k + 1 → rows[i]? = some s → pchk s = 0 from fun i s hi hs => by
          by_cases e2 : i = k
          · subst e2; rw [hrk] at hs; injection hs with hs; subst hs; rw [he, h0]
          · exact hall.out i s (by omega) hs)
        subst h0
        clear hc hrk hu he hall
        go_wp2_with (go_at_call 8; refine HCH.out.mono ?_; rintro e w' ⟨rfl, q2, rfl⟩)
        go_roundw
        case rel => exact ⟨k + 1, q + q2, by omega, by go_num, HA, rfl⟩
        case measure => simp [intOf]; omega
      · have hb : (e != 0) = true := by simpa using h0
        have HP := hid_ (show allS n rows = e from by rw [allS_hit hrk (by rw [he]; exact h0) (fun j s hj hs => hall.out j s hj hs)]; exact he)
        clear hc hrk hu he hall h0
        go_wp2_with (go_at_call 8; refine HCH.out.mono ?_; rintro e w' ⟨rfl, q2, rfl⟩)
        go_ret
        exact ⟨ret_int HP.out.symm, q + q2, rfl⟩
    · obtain rfl : k = rows.length := by omega
      have HAM := hid_ (allS_miss (n := n) fun j s hs => hall.out j s (List.getElem?_eq_some_iff.1 hs).1 hs)
      clear hall
      go_wp2_with fail
      go_loopw [7] (fun k' wr => ∃ (k : Nat), k ≤ rows.length ∧ k' = .int .i64 k ∧ Hid (∀ (i : Nat) (r : List Int), i < k → rows[i]? = some r → (r.length : Int) = n) ∧ wr = w.drewN q) (fun k' _ => rows.length - (intOf k').toNat)
      case atStart => exact ⟨0, by omega, rfl, hid_ (fun i x h => by omega), rfl⟩
      case round =>
        obtain ⟨k, hk, rfl, hall, rfl⟩ := hrel
        by_cases hkn : k < rows.length
        · obtain ⟨b, o, rfl, hc⟩ := S3.out (by omega)
          obtain ⟨r, hrk⟩ : ∃ r, rows[k]? = some r := ⟨_, List.getElem?_eq_getElem hkn⟩
          obtain ⟨u, c1, hu⟩ := hc k r hrk
          have c1 := ((Ex.refl w).drewN q).cell c1
          have i1 : (0 : Int) ≤ (k : Int) := by omega
          have i2 : (k : Int) < (rows.length : Int) := by omega
          obtain ⟨ua, uc, rfl, _, _, _⟩ := hu.open
          by_cases h0 : (r.length : Int) = n
          · have HA := hid_ (show ∀ (i : Nat) (s : List Int), i < k + 1 → rows[i]? = some s → (s.length : Int) = n from fun i s hi hs => by
              by_cases e2 : i = k
              · subst e2; rw [hrk] at hs; injection hs with hs; subst hs; exact h0
              · exact hall.out i s (by omega) hs)
            have hb : ((r.length : Int) != n) = false := by simpa using h0
            clear hc hrk hu hall h0
            go_wp2_with fail
            go_roundw
            case rel => exact ⟨k + 1, by omega, by go_num, HA, by first | trivial | rfl⟩
            case measure => simp [intOf]; omega
          · have HP := hid_ (show allS n rows = 10 from by rw [HAM.out, if_pos ⟨r, List.mem_of_getElem? hrk, h0⟩])
            have hb : ((r.length : Int) != n) = true := by simpa using h0
            clear hc hrk hu hall h0
            go_wp2_with fail
            go_ret
            exact ⟨ret_int HP.out.symm, q, rfl⟩
        · obtain rfl : k = rows.length := by omega
          have HP := hid_ (show allS n rows = 0 from by
            rw [HAM.out, if_neg]
            rintro ⟨r, hr, h⟩
            obtain ⟨i, hi, rfl⟩ := List.getElem_of_mem hr
            exact h (hall.out i _ hi (List.getElem?_eq_getElem hi)))
          clear hall
          go_wp2_with fail
          go_ret
          exact ⟨ret_int HP.out.symm, q, rfl⟩
set_option maxRecDepth 100000 in
set_option maxHeartbeats 2000000 in
theorem rgroup_any (w : World) (n : Int) (rows : List (List Int)) (v : Value) (hv : MSl w v rows) :
    Calls Tryz.prog 60 #[.int .i64 n, v] w fun r w' => r = .returned (.int .i64 (gchk n rows)) ∧ ∃ q, w' = w.drewN q := by
  by_cases h1 : n < 1
  · have HP := hid_ (show gchk n rows = 4 from if_pos (.inl h1))
    go_enter Tryz.func60, Tryz.ntmps60
    go_wp2_with fail
    go_ret
    exact ⟨ret_int HP.out.symm, 0, rfl⟩
  · by_cases h2 : 64 < n
    · have HP := hid_ (show gchk n rows = 4 from if_pos (.inr h2))
      go_enter Tryz.func60, Tryz.ntmps60
      go_wp2_with fail
      go_ret
      exact ⟨ret_int HP.out.symm, 0, rfl⟩
    · have HP := hid_ (show gchk n rows = allS n rows from if_neg (by omega))
      have HC := hid_ (rall_any w n rows v hv)
      clear hv
      go_enter Tryz.func60, Tryz.ntmps60
      go_wp2_with (go_at_call 86; refine HC.out.mono ?_; rintro e w' ⟨rfl, q, rfl⟩)
      go_ret
      exact ⟨ret_int HP.out.symm, q, rfl⟩
end Go.Proofs.YtgfdhclpffakfaaGreat
