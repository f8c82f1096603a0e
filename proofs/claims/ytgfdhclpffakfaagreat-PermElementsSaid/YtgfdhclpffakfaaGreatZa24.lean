/- slices.Equal at ints; the reference's Less, code, fixes. -/
import Derived.Test.YtgfdhclpffakfaaGreatZa23
namespace Go.Proofs.YtgfdhclpffakfaaGreat
set_option linter.unusedVariables false
set_option linter.unusedSimpArgs false
open Go.RowKit

set_option maxRecDepth 100000 in
set_option maxHeartbeats 1000000 in
theorem Equal_any (w : World) (l k : List Int) (v u : Value) (hl : ISl w v l) (hk : ISl w u k) :
    Calls Tryz.prog 52 #[v, u] w fun r w' => r = .returned (.bool (decide (l = k))) ∧ ∃ n, w' = w.drewN n := by
  obtain ⟨a, cap, rfl, s1, s2, s3⟩ := hl.open
  obtain ⟨c, cc, rfl, t1, t2, t3⟩ := hk.open
  have S3 := hid_ s3
  have T3 := hid_ t3
  unfold maxLen at s2 t2
  clear hl hk s3 t3
  by_cases hlk : l.length = k.length
  · have hb : ((l.length : Int) != (k.length : Int)) = false := by simp; omega
    have HLK := hid_ hlk
    clear hlk
    go_enter Tryz.func52, Tryz.ntmps52
    go_wp2_with fail
    go_loopw [13] (fun i' wr => ∃ i n : Nat, i ≤ l.length ∧ i' = .int .i64 i ∧ wr = w.drewN n ∧ Hid (∀ j, j < i → l[j]? = k[j]?)) (fun i' _ => l.length - (intOf i').toNat)
    case atStart => exact ⟨0, 0, by omega, rfl, rfl, hid_ (fun j hj => by omega)⟩
    case round =>
      obtain ⟨i, n, hi, rfl, rfl, hall⟩ := hrel
      by_cases hlt : i < l.length
      · obtain ⟨x, hx⟩ : ∃ x, l[i]? = some x := ⟨_, List.getElem?_eq_getElem hlt⟩
        have hik : i < k.length := by have := HLK.out; omega
        obtain ⟨y, hy⟩ : ∃ y, k[i]? = some y := ⟨_, List.getElem?_eq_getElem hik⟩
        obtain ⟨b, o, rfl, hc⟩ := S3.out (by omega)
        obtain ⟨b2, o2, rfl, hc2⟩ := T3.out (by omega)
        have c1 := ((Ex.refl w).drewN n).cell (hc i x hx)
        have c2 := ((Ex.refl w).drewN n).cell (hc2 i y hy)
        have i1 : (0 : Int) ≤ (i : Int) := by omega
        have i2 : (i : Int) < (l.length : Int) := by omega
        have i3 : (i : Int) < (k.length : Int) := by omega
        obtain ⟨W, hW⟩ : ∃ W, w.drewN n = W := ⟨_, rfl⟩
        rw [hW] at c1 c2 ⊢
        have HWE := hid_ hW
        clear hW
        by_cases hxy : x = y
        · have HA := hid_ (show ∀ j, j < i + 1 → l[j]? = k[j]? from fun j hj => by
            by_cases e : j = i
            · subst e; rw [hx, hy, hxy]
            · exact hall.out j (by omega))
          have hbb : (x != y) = false := by simpa using hxy
          clear hc hc2 hx hy hxy
          go_wp2_with fail
          go_quiet (fail)
          go_wp2_with fail
          go_roundw
          case rel => exact ⟨i + 1, _, by omega, by go_num, by rw [← HWE.out, World.drewN_drewN], HA⟩
          case measure => simp [intOf]; omega
        · have HN := hid_ (show ¬ l = k from fun e => hxy (by rw [e, hy] at hx; injection hx with hx; exact hx.symm))
          have hbb : (x != y) = true := by simpa using hxy
          clear hc hc2 hx hy hxy
          go_wp2_with fail
          go_quiet (fail)
          go_wp2_with fail
          go_ret
          exact ⟨ret_bool (decide_eq_false HN.out).symm, _, by rw [← HWE.out, World.drewN_drewN]⟩
      · obtain rfl : i = l.length := by omega
        have HE := hid_ (eq_of_get HLK.out hall.out)
        go_wp2_with fail
        go_ret
        exact ⟨ret_bool (decide_eq_true HE.out).symm, n, rfl⟩
  · have hb : ((l.length : Int) != (k.length : Int)) = true := by simp; omega
    have HN := hid_ (show ¬ l = k from fun e => hlk (by rw [e]))
    clear hlk
    go_enter Tryz.func52, Tryz.ntmps52
    go_wp2_with fail
    go_ret
    exact ⟨ret_bool (decide_eq_false HN.out).symm, 0, rfl⟩
/-- The order of lists of one length. -/
def lessS : List Int → List Int → Bool
  | x :: l, y :: k => if x = y then lessS l k else decide (x < y)
  | _, _ => false
theorem lessS_hit : ∀ {l k : List Int} {i : Nat} {x y : Int}, l[i]? = some x → k[i]? = some y → x ≠ y → (∀ j, j < i → l[j]? = k[j]?) → lessS l k = decide (x < y)
  | x' :: l, y' :: k, 0, x, y, h1, h2, hne, _ => by
    simp at h1 h2
    subst h1 h2
    unfold lessS
    rw [if_neg hne]
  | x' :: l, y' :: k, i + 1, x, y, h1, h2, hne, ha => by
    have h0 := ha 0 (by omega)
    simp at h0
    subst h0
    unfold lessS
    rw [if_pos rfl]
    exact lessS_hit (i := i) (by simpa using h1) (by simpa using h2) hne fun j hj => by
      have := ha (j + 1) (by omega)
      simpa using this
  | [], k, i, x, y, h1, _, _, _ => by simp at h1
  | x' :: l, [], i, x, y, _, h2, _, _ => by simp at h2
theorem lessS_miss : ∀ {l k : List Int}, (∀ j, j < l.length → l[j]? = k[j]?) → lessS l k = false
  | [], k, _ => by unfold lessS; rfl
  | x :: l, [], h => by
    have := h 0 (by simp)
    simp at this
  | x :: l, y :: k, h => by
    have h0 := h 0 (by simp)
    simp at h0
    subst h0
    unfold lessS
    rw [if_pos rfl]
    exact lessS_miss fun j hj => by
      have := h (j + 1) (by simpa using hj)
      simpa using this
set_option maxRecDepth 100000 in
set_option maxHeartbeats 1000000 in
theorem Less_any (w : World) (l k : List Int) (v u : Value) (hl : ISl w v l) (hk : ISl w u k) (hlk : l.length ≤ k.length) :
    Calls Tryz.prog 10 #[v, u] w fun r w' => r = .returned (.bool (lessS l k)) ∧ ∃ n, w' = w.drewN n := by
  obtain ⟨a, cap, rfl, s1, s2, s3⟩ := hl.open
  obtain ⟨c, cc, rfl, t1, t2, t3⟩ := hk.open
  have S3 := hid_ s3
  have T3 := hid_ t3
  unfold maxLen at s2 t2
  clear hl hk s3 t3
  go_enter Tryz.func10, Tryz.ntmps10
  go_wp2_with fail
  go_loopw [5] (fun i' wr => ∃ i n : Nat, i ≤ l.length ∧ i' = .int .i64 i ∧ wr = w.drewN n ∧ Hid (∀ j, j < i → l[j]? = k[j]?)) (fun i' _ => l.length - (intOf i').toNat)
  case atStart => exact ⟨0, 0, by omega, rfl, rfl, hid_ (fun j hj => by omega)⟩
  case round =>
    obtain ⟨i, n, hi, rfl, rfl, hall⟩ := hrel
    by_cases hlt : i < l.length
    · obtain ⟨x, hx⟩ : ∃ x, l[i]? = some x := ⟨_, List.getElem?_eq_getElem hlt⟩
      obtain ⟨y, hy⟩ : ∃ y, k[i]? = some y := ⟨_, List.getElem?_eq_getElem (by omega)⟩
      obtain ⟨b, o, rfl, hc⟩ := S3.out (by omega)
      obtain ⟨b2, o2, rfl, hc2⟩ := T3.out (by omega)
      have c1 := ((Ex.refl w).drewN n).cell (hc i x hx)
      have c2 := ((Ex.refl w).drewN n).cell (hc2 i y hy)
      have i1 : (0 : Int) ≤ (i : Int) := by omega
      have i2 : (i : Int) < (l.length : Int) := by omega
      have i3 : (i : Int) < (k.length : Int) := by omega
      obtain ⟨W, hW⟩ : ∃ W, w.drewN n = W := ⟨_, rfl⟩
      rw [hW] at c1 c2 ⊢
      have HWE := hid_ hW
      clear hW
      by_cases hxy : x = y
      · have HA := hid_ (show ∀ j, j < i + 1 → l[j]? = k[j]? from fun j hj => by
          by_cases e : j = i
          · subst e; rw [hx, hy, hxy]
          · exact hall.out j (by omega))
        have hbb : (x != y) = false := by simpa using hxy
        clear hc hc2 hx hy hxy
        go_wp2_with fail
        go_quiet (fail)
        go_wp2_with fail
        go_roundw
        case rel => exact ⟨i + 1, _, by omega, by go_num, by rw [← HWE.out, World.drewN_drewN], HA⟩
        case measure => simp [intOf]; omega
      · have HN := hid_ (lessS_hit hx hy hxy hall.out)
        have hbb : (x != y) = true := by simpa using hxy
        clear hc hc2 hx hy hxy
        go_wp2_with fail
        go_quiet (fail)
        go_wp2_with fail
        go_quiet (fail)
        go_wp2_with fail
        go_ret
        exact ⟨ret_bool HN.out.symm, _, by rw [← HWE.out, World.drewN_drewN, World.drewN_drewN]⟩
    · obtain rfl : i = l.length := by omega
      have HE := hid_ (lessS_miss hall.out)
      go_wp2_with fail
      go_ret
      exact ⟨ret_bool HE.out.symm, n, rfl⟩
def fixB (b : Nat) (f : Nat → Nat) : Bool := (List.range b).all fun i => f i == i
theorem fixB_iff (b : Nat) (f : Nat → Nat) : fixB b f = true ↔ FixP b f := by
  unfold fixB FixP
  rw [List.all_eq_true]
  exact ⟨fun h i hi => by simpa using h i (List.mem_range.2 hi), fun h i hi => by simpa using h i (List.mem_range.1 hi)⟩
set_option maxRecDepth 100000 in
set_option maxHeartbeats 1000000 in
theorem fixes_any (w : World) (n : Nat) (f : Nat → Nat) (v : Value) (hv : ISl w v (li n f)) (b : Nat) (hb : b ≤ n) (hn : n ≤ 1000) :
    Calls Tryz.prog 87 #[v, .int .i64 b] w fun r w' => r = .returned (.bool (fixB b f)) ∧ w = w' := by
  obtain ⟨a, cap, rfl, _, s2, s3⟩ := isl_li hv
  have S3 := hid_ s3
  unfold maxLen at s2
  clear hv s3
  go_enter Tryz.func87, Tryz.ntmps87
  go_wp2_with fail
  go_loopw [5] (fun i' wr => ∃ i : Nat, i ≤ b ∧ i' = .int .i64 i ∧ wr = w ∧ Hid (FixP i f)) (fun i' _ => b - (intOf i').toNat)
  case atStart => exact ⟨0, by omega, rfl, rfl, hid_ (fun j hj => by omega)⟩
  case round =>
    obtain ⟨i, hi, rfl, rfl, hall⟩ := hrel
    by_cases hlt : i < b
    · obtain ⟨pb, po, rfl, hc⟩ := S3.out (by omega)
      have c1 := hc i (by omega)
      have i1 : (0 : Int) ≤ (i : Int) := by omega
      have i2 : (i : Int) < (n : Int) := by omega
      by_cases he : f i = i
      · have HA := hid_ (show FixP (i + 1) f from fun j hj => by
          by_cases e : j = i
          · subst e; exact he
          · exact hall.out j (by omega))
        have hbb : ((f i : Int) != (i : Int)) = false := by simp; omega
        have hb2 : (f i != i) = false := by simpa using he
        clear hc he
        go_wp2_with fail
        go_roundw
        case rel => exact ⟨i + 1, by omega, by go_num, by first | rfl | trivial, HA⟩
        case measure => simp [intOf]; omega
      · have HN := hid_ (show ¬ FixP b f from fun h => he (h i hlt))
        have hbb : ((f i : Int) != (i : Int)) = true := by simp; omega
        have hb2 : (f i != i) = true := by simpa using he
        clear hc he
        go_wp2_with fail
        go_ret
        exact ⟨ret_bool (show false = fixB b f from by cases h : fixB b f with | false => rfl | true => exact absurd ((fixB_iff b f).1 h) HN.out), rfl⟩
    · obtain rfl : i = b := by omega
      go_wp2_with fail
      go_ret
      exact ⟨ret_bool ((fixB_iff i f).2 hall.out).symm, rfl⟩
/-- The number of a permutation of few points. -/
def codeN (f : Nat → Nat) : Nat → Nat
  | 0 => 0
  | i + 1 => 6 * codeN f i + f i
theorem codeN_lt {f : Nat → Nat} : ∀ i, (∀ j, j < i → f j < 6) → codeN f i < 6 ^ i
  | 0, _ => Nat.one_pos
  | i + 1, h => by
    have h1 := codeN_lt i fun j hj => h j (by omega)
    have h2 := h i (by omega)
    rw [Nat.pow_succ]
    show 6 * codeN f i + f i < _
    omega
theorem codeN_inj {f g : Nat → Nat} : ∀ i, (∀ j, j < i → f j < 6) → (∀ j, j < i → g j < 6) → codeN f i = codeN g i → ∀ j, j < i → f j = g j
  | 0, _, _, _, j, hj => by omega
  | i + 1, hf, hg, h, j, hj => by
    have h1 := hf i (by omega)
    have h2 := hg i (by omega)
    have h : 6 * codeN f i + f i = 6 * codeN g i + g i := h
    by_cases e : j = i
    · subst e; omega
    · exact codeN_inj i (fun j hj => hf j (by omega)) (fun j hj => hg j (by omega)) (by omega) j (by omega)
theorem codeN_small {f : Nat → Nat} {i : Nat} (hi : i ≤ 6) (h : ∀ j, j < i → f j < 6) : codeN f i < 46656 :=
  Nat.lt_of_lt_of_le (codeN_lt i h) (Nat.le_trans (Nat.pow_le_pow_right (by omega) hi) (by decide))
set_option maxRecDepth 100000 in
set_option maxHeartbeats 1000000 in
theorem code_any (w : World) (n : Nat) (f : Nat → Nat) (v : Value) (hv : ISl w v (li n f)) (hn : n ≤ 6) (hf : ∀ i, i < n → f i < n) :
    Calls Tryz.prog 88 #[v] w fun r w' => r = .returned (.int .i64 (codeN f n : Int)) ∧ w = w' := by
  obtain ⟨a, cap, rfl, _, s2, s3⟩ := isl_li hv
  have S3 := hid_ s3
  have HF := hid_ (show ∀ i, i < n → f i < 6 from fun i hi => by have := hf i hi; omega)
  unfold maxLen at s2
  clear hv s3 hf
  go_enter Tryz.func88, Tryz.ntmps88
  go_wp2_with fail
  go_loopw [3, 4] (fun c' i' wr => ∃ i : Nat, i ≤ n ∧ i' = .int .i64 i ∧ c' = .int .i64 (codeN f i : Int) ∧ wr = w) (fun _ i' _ => n - (intOf i').toNat)
  case atStart => exact ⟨0, by omega, rfl, rfl, rfl⟩
  case round =>
    obtain ⟨i, hi, rfl, rfl, rfl⟩ := hrel
    by_cases hlt : i < n
    · obtain ⟨pb, po, rfl, hc⟩ := S3.out (by omega)
      have c1 := hc i hlt
      have i1 : (0 : Int) ≤ (i : Int) := by omega
      have i2 : (i : Int) < (n : Int) := by omega
      have h1 := HF.out i hlt
      have h2 := codeN_small (f := f) (i := i) (by omega) fun j hj => HF.out j (by omega)
      have HE := hid_ (show (codeN f (i + 1) : Int) = 6 * (codeN f i : Int) + (f i : Int) from by show ((6 * codeN f i + f i : Nat) : Int) = _; omega)
      obtain ⟨C, hC⟩ : ∃ C, codeN f i = C := ⟨_, rfl⟩
      rw [hC] at h2 HE ⊢
      clear hc hC
      go_wp2_with fail
      go_roundw
      case rel => exact ⟨i + 1, by omega, by go_num, by rw [HE.out], by first | rfl | trivial⟩
      case measure => simp [intOf]; omega
    · obtain rfl : i = n := by omega
      go_wp2_with fail
      go_ret
      exact ⟨rfl, rfl⟩
end Go.Proofs.YtgfdhclpffakfaaGreat
