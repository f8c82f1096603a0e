/- Walks of the package field: order, isPrime, digitsOf, valueOf. -/
import Derived.Test.YtgdmlmhpineibaaGreatZb00
import Derived.Test.YtgdmlmhpineibaaGreatZb01
namespace Go.Proofs.YtgdmlmhpineibaaGreat
set_option linter.unusedVariables false
set_option linter.unusedSimpArgs false
open Go.RowKit

theorem infoInt : (Tryz.prog.info? 3).map (fun i => (i.zero, i.size, i.bytes)) = some (some (.int .i64 0), 1, 8) := by kernel_rfl
theorem infoBool : (Tryz.prog.info? 4).map (fun i => (i.zero, i.size, i.bytes)) = some (some (.bool false), 1, 1) := by kernel_rfl
def ordS (p m : Int) : Int := if 2 ≤ p ∧ 1 ≤ m ∧ m ≤ 8 ∧ p ^ m.toNat ≤ 256 then p ^ m.toNat else 0
theorem pow_mono_ {p : Int} (h : 2 ≤ p) {i j : Nat} (hij : i ≤ j) : p ^ i ≤ p ^ j := by
  obtain ⟨k, rfl⟩ : ∃ k, j = i + k := ⟨j - i, by omega⟩
  rw [Int.pow_add]
  have h1 : 1 ≤ p ^ k := Int.pow_pos (by omega)
  have h2 : 1 ≤ p ^ i := Int.pow_pos (by omega)
  have := Int.mul_le_mul_of_nonneg_left h1 (show 0 ≤ p ^ i by omega)
  omega
theorem le_pow_ {p : Int} (h : 2 ≤ p) {i : Nat} (hi : 1 ≤ i) : p ≤ p ^ i := by
  have := pow_mono_ h hi
  have e : p ^ 1 = p := Int.pow_one p
  omega
set_option maxHeartbeats 1000000 in
theorem order_any (p m : Int) (w : World) :
    Calls Tryz.prog 136 #[.int .i64 p, .int .i64 m] w fun r w' => r = .returned (.int .i64 (ordS p m)) ∧ w = w' := by
  by_cases h : 2 ≤ p ∧ p ≤ 256 ∧ 1 ≤ m ∧ m ≤ 8
  · obtain ⟨h1, h2, h3, h4⟩ := h
    have HO := hid_ (show ordS p m = if p ^ m.toNat ≤ 256 then p ^ m.toNat else 0 by unfold ordS; by_cases h : p ^ m.toNat ≤ 256 <;> simp [h, h1, h3, h4])
    go_enter Tryz.func136, Tryz.ntmps136
    go_wp2
    go_loop [5, 21] (fun q' i' => ∃ i : Nat, i ≤ m.toNat ∧ i' = .int .i64 i ∧ q' = .int .i64 (p ^ i) ∧ 1 ≤ p ^ i ∧ p ^ i ≤ 256) (fun _ i' => m.toNat - (intOf i').toNat)
    case atStart => exact ⟨0, by omega, rfl, by simp, by simp, by simp⟩
    case round =>
      obtain ⟨i, hi, rfl, rfl, q1, q2⟩ := hrel
      have HS := hid_ (Int.pow_succ p i)
      have HM := hid_ (show i < m.toNat → p ^ (i + 1) ≤ p ^ m.toNat from fun h => pow_mono_ h1 h)
      have q3 : p ^ i * p ≤ 65536 := by
        have := Int.mul_le_mul q2 h2 (by omega) (by omega)
        omega
      have q4 : 1 ≤ p ^ i * p := by
        have := Int.mul_pos (show 0 < p ^ i by omega) (show 0 < p by omega)
        omega
      by_cases hlt : (i : Int) < m
      · by_cases hq : 256 < p ^ i * p
        · have HB := HM.out (by omega)
          rw [HS.out] at HB
          have HN := hid_ (show ¬ p ^ m.toNat ≤ 256 by omega)
          clear HB HM
          generalize p ^ i = y at *
          go_wp2
          go_ret
          exact ⟨ret_int (by rw [HO.out, if_neg (by have := HN.out; omega)]), rfl⟩
        · have HE := hid_ (show p ^ (i + 1) = p ^ i * p from HS.out)
          clear HM HS
          generalize p ^ i = y at *
          go_wp2
          go_round
          case rel => exact ⟨i + 1, by omega, by go_num, by rw [HE.out], by rw [HE.out]; omega, by rw [HE.out]; omega⟩
          case measure => simp [intOf]; omega
      · have hi' : i = m.toNat := by omega
        have HN := hid_ (show p ^ m.toNat = p ^ i by rw [hi'])
        clear HM HS
        generalize p ^ i = y at *
        go_wp2
        go_ret
        exact ⟨ret_int (by rw [HO.out, HN.out, if_pos q2]), rfl⟩
  · have HO := hid_ (show ordS p m = 0 by
      unfold ordS
      rw [if_neg]
      rintro ⟨h1, h2, h3, h4⟩
      have := le_pow_ h1 (show 1 ≤ m.toNat by omega)
      exact h ⟨h1, by omega, h2, h3⟩)
    have c : p < 2 ∨ (2 ≤ p ∧ 256 < p) ∨ (2 ≤ p ∧ p ≤ 256 ∧ m < 1) ∨ (2 ≤ p ∧ p ≤ 256 ∧ 1 ≤ m ∧ 8 < m) := by omega
    clear h
    rcases c with c | ⟨c1, c2⟩ | ⟨c1, c2, c3⟩ | ⟨c1, c2, c3, c4⟩
    all_goals
      go_enter Tryz.func136, Tryz.ntmps136
      go_wp2
      go_ret
      exact ⟨ret_int HO.out.symm, rfl⟩
/-- A prime. -/
def prB (n : Nat) : Bool := decide (2 ≤ n ∧ ∀ d, d < n → 2 ≤ d → n % d ≠ 0)
theorem prB_no {n d : Nat} (h2 : 2 ≤ d) (h : d * d ≤ n) (hd : n % d = 0) : prB n = false := by
  unfold prB
  rw [decide_eq_false_iff_not]
  rintro ⟨h1, h3⟩
  have h4 : d < n := by
    have := Nat.mul_le_mul_right d h2
    omega
  exact h3 d h4 h2 hd
theorem prB_yes {n k : Nat} (hn : 2 ≤ n) (hk : n < k * k) (h : ∀ d, 2 ≤ d → d < k → n % d ≠ 0) : prB n = true := by
  unfold prB
  rw [decide_eq_true_iff]
  refine ⟨hn, fun d h1 h2 h3 => ?_⟩
  rcases Nat.lt_or_ge d k with h4 | h4
  · exact h d h2 h4 h3
  · have h5 := Nat.div_mul_cancel (Nat.dvd_of_mod_eq_zero h3)
    have h6 : n / d < k := by
      rcases Nat.lt_or_ge (n / d) k with h7 | h7
      · exact h7
      · have := Nat.mul_le_mul h7 h4
        omega
    have h7 : 2 ≤ n / d := by
      generalize n / d = q at *
      rcases Nat.lt_or_ge q 2 with h8 | h8
      · have h9 : q = 0 ∨ q = 1 := by omega
        rcases h9 with e | e <;> rw [e] at h5 <;> omega
      · exact h8
    exact h (n / d) h7 h6 (Nat.mod_eq_zero_of_dvd ⟨d, h5.symm⟩)
set_option maxHeartbeats 1000000 in
theorem isPrime_any (n : Nat) (w : World) (h1 : 2 ≤ n) (h2 : n ≤ 256) :
    Calls Tryz.prog 166 #[.int .i64 n] w fun r w' => r = .returned (.bool (prB n)) ∧ w = w' := by
  go_enter Tryz.func166, Tryz.ntmps166
  go_wp2
  go_loop [3] (fun d' => ∃ d : Nat, 2 ≤ d ∧ d ≤ 17 ∧ d' = .int .i64 d ∧ Hid (∀ c, 2 ≤ c → c < d → n % c ≠ 0)) (fun d' => 17 - (intOf d').toNat)
  case atStart => exact ⟨2, by omega, by omega, rfl, hid_ (fun c a b => by omega)⟩
  case round =>
    obtain ⟨d, d1, d2, rfl, hall⟩ := hrel
    have hdd : (d : Int) * d = ((d * d : Nat) : Int) := by simp
    have q1 : d * d ≤ 289 := Nat.mul_le_mul d2 d2
    have q2 : 17 * 17 ≤ d * d ∨ d < 17 := by
      rcases Nat.lt_or_ge d 17 with h | h
      · exact .inr h
      · exact .inl (Nat.mul_le_mul h h)
    by_cases hlt : d * d ≤ n
    · have HNO := hid_ (fun h => prB_no d1 hlt h)
      have q3 : 0 ≤ (d : Int) * d := by omega
      have q4 : (d : Int) * d ≤ 289 := by omega
      have q5 : (d : Int) * d ≤ n := by omega
      by_cases hd : n % d = 0
      · have hd' : ((n : Int) % (d : Int) == 0) = true := by simp; omega
        have HR := hid_ (HNO.out hd)
        clear hd hdd
        go_wp2
        go_ret
        exact ⟨ret_bool HR.out.symm, rfl⟩
      · have hd' : ((n : Int) % (d : Int) == 0) = false := by simp; omega
        have HA := hid_ (show ∀ c, 2 ≤ c → c < d + 1 → n % c ≠ 0 from fun c a b => by
          by_cases e : c = d
          · subst e; exact hd
          · exact hall.out c a (by omega))
        clear hd hdd
        go_wp2
        go_round
        case rel => exact ⟨d + 1, by omega, by omega, by go_num, HA⟩
        case measure => simp [intOf]; omega
    · have HR := hid_ (prB_yes h1 (by omega) hall.out)
      have q3 : 0 ≤ (d : Int) * d := by omega
      have q4 : (d : Int) * d ≤ 289 := by omega
      have q5 : (n : Int) < (d : Int) * d := by omega
      clear hdd
      go_wp2
      go_ret
      exact ⟨ret_bool (by rw [HR.out]; simp; omega), rfl⟩
set_option maxRecDepth 100000 in
set_option maxHeartbeats 1000000 in
theorem digitsOf_any (x p m : Nat) (w : World) (hx : x ≤ 65536) (hp : 1 ≤ p) (hp' : p ≤ 256) (hm : m ≤ 256) :
    Calls Tryz.prog 183 #[.int .i64 x, .int .i64 p, .int .i64 m] w fun r w' => ∃ v, r = .returned v ∧ ISl w' v (il m (dig p m x)) ∧ Ex w w' := by
  go_enter Tryz.func183, Tryz.ntmps183
  go_wp2_with (at_make; refine wpList_make_arr _ rfl _ _ 22 rfl 3 (.int .i64 0) 8 Tryz.underlying22 infoInt rfl _ m rfl rfl rfl (by omega) (by unfold maxLen; omega) ?_)
  intro w1 hown hx1
  have hgb : w.heap.size ≤ w.heap.size := Nat.le_refl _
  have HB := hid_ hgb
  clear hgb
  obtain ⟨g, hg⟩ : ∃ g, w.heap.size = g := ⟨_, rfl⟩
  have hown1 : Own w1 g 3 g m (iv fun j => if j < 0 then dig p m x j else 0) := by
    rw [hg] at hown
    exact hown.congr fun j _ => by simp [iv]
  have HG := hid_ hg
  simp only [hg]
  clear hown hg
  go_wp2_with fail
  go_loopw [0, 8, 13] (fun x' _ k' wr => ∃ k : Nat, k ≤ m ∧ k' = .int .i64 k ∧ x' = .int .i64 ((x / p ^ k : Nat) : Int) ∧ Own wr g 3 g m (iv fun j => if j < k then dig p m x j else 0) ∧ Ex w wr) (fun _ _ k' _ => m - (intOf k').toNat)
  case atStart => exact ⟨0, by omega, rfl, by simp, hown1, hx1⟩
  case round =>
    clear hown1 hx1
    obtain ⟨k, hk, rfl, rfl, hown, hx1⟩ := hrel
    have hxk : x / p ^ k ≤ 65536 := Nat.le_trans (Nat.div_le_self _ _) hx
    have HS := hid_ (show x / p ^ (k + 1) = x / p ^ k / p by rw [Nat.pow_succ, Nat.div_div_eq_div_mul])
    have HD := hid_ (show k < m → dig p m x k = ((x / p ^ k % p : Nat) : Int) from fun h => by unfold dig; rw [if_pos h])
    generalize x / p ^ k = y at *
    by_cases hlt : k < m
    · have hf := hown.frz k
      have hc := hown.cell hlt
      have HO := hid_ (hown.set k (.int .i64 ((y : Int) % (p : Int))))
      have HE := hid_ (hown.exSet (by rw [HG.out]; exact Nat.le_refl _) hx1 k (.int .i64 ((y : Int) % (p : Int))))
      clear hown hx1
      go_wp2_with fail
      go_roundw
      case rel =>
        refine ⟨k + 1, by omega, by go_num, by rw [HS.out, w64_div _ _ (by omega)], ?_, HE.out⟩
        have := HO.out
        rw [iv_upd] at this
        refine this.icongr fun j hj => ?_
        unfold upd
        dsimp only
        by_cases h : j = k
        · subst h; rw [if_pos rfl, if_pos (by omega), HD.out hlt]; simp
        · rw [if_neg h]
          by_cases h2 : j < k
          · rw [if_pos h2, if_pos (by omega)]
          · rw [if_neg h2, if_neg (by omega)]
      case measure => simp [intOf]; omega
    · obtain rfl : k = m := by omega
      have hown' : Own wr g 3 g k (iv (dig p k x)) := hown.icongr fun j hj => by rw [if_pos hj]
      have HO := hid_ hown'.isl
      clear hown hown' HD HS
      go_wp2_with fail
      go_ret
      exact ⟨_, rfl, HO.out, hx1⟩
/-- The number with the digits of a list. -/
def vl (p : Nat) : List Int → Int
  | [] => 0
  | a :: l => vl p l * p + a
theorem codGo (p : Nat) (l : List Int) (k : Nat) (x : Int) (h : l[k]? = some x) : vl p (l.drop k) = vl p (l.drop (k + 1)) * (p : Int) + x := by
  obtain ⟨hk, rfl⟩ := List.getElem?_eq_some_iff.1 h
  rw [List.drop_eq_getElem_cons hk]; rfl
theorem vl_rng {p : Nat} (hp : 1 ≤ p) : ∀ (l : List Int), (∀ x ∈ l, 0 ≤ x ∧ x < p) → 0 ≤ vl p l ∧ vl p l < ((p ^ l.length : Nat) : Int)
  | [], _ => by simp [vl]
  | x :: l, h => by
    obtain ⟨h1, h2⟩ := vl_rng hp l fun y hy => h y (List.mem_cons_of_mem _ hy)
    obtain ⟨h3, h4⟩ := h x (List.mem_cons_self ..)
    show 0 ≤ vl p l * p + x ∧ vl p l * p + x < _
    have h5 : 0 ≤ vl p l * p := Int.mul_nonneg h1 (by omega)
    have h6 : (vl p l + 1) * (p : Int) ≤ ((p ^ l.length : Nat) : Int) * p := Int.mul_le_mul_of_nonneg_right (by omega) (by omega)
    rw [List.length_cons, Nat.pow_succ, Int.natCast_mul]
    rw [Int.add_mul] at h6
    omega
theorem vl_il (p : Nat) : ∀ (m : Nat) (f : Nat → Int), vl p (il m f) = cod p m f
  | 0, f => by simp [il, vl, cod]
  | m + 1, f => by
    have key : ∀ (l : List Int) (x : Int), vl p (l ++ [x]) = vl p l + x * ((p ^ l.length : Nat) : Int) := by
      intro l
      induction l with
      | nil => intro x; simp [vl]
      | cons a l ih =>
        intro x
        show vl p (l ++ [x]) * p + a = vl p l * p + a + _
        rw [ih, List.length_cons, Nat.pow_succ, Int.natCast_mul, Int.add_mul, Int.mul_assoc]
        omega
    simp only [cod]
    rw [show il (m + 1) f = il m f ++ [f m] by simp [il, List.range_succ], key, vl_il p m f, il_length]
set_option maxRecDepth 100000 in
set_option maxHeartbeats 1000000 in
theorem valueOf_any (l : List Int) (v : Value) (p : Nat) (w : World) (hl : ISl w v l) (hp : 1 ≤ p) (hp' : p ≤ 256) (hb : ∀ x ∈ l, 0 ≤ x ∧ x < p) (hq : p ^ l.length ≤ 65536) :
    Calls Tryz.prog 184 #[v, .int .i64 p] w fun r w' => r = .returned (.int .i64 (vl p l)) ∧ w = w' := by
  obtain ⟨a, cap, rfl, s1, s2, s3⟩ := hl.open
  unfold maxLen at s2
  have S3 := hid_ s3
  have HV := hid_ (show vl p l = vl p (l.drop 0) from rfl)
  have HR := hid_ (show ∀ k, 0 ≤ vl p (l.drop k) ∧ vl p (l.drop k) * (p : Int) ≤ 16777216 ∧ vl p (l.drop k) ≤ 65536 from fun k => by
    obtain ⟨h1, h2⟩ := vl_rng hp (l.drop k) fun x hx => hb x (List.mem_of_mem_drop hx)
    have h3 : p ^ (l.drop k).length ≤ p ^ l.length := Nat.pow_le_pow_right hp (by rw [List.length_drop]; omega)
    have h4 := Int.mul_le_mul (show vl p (l.drop k) ≤ 65536 by omega) (show (p : Int) ≤ 256 by omega) (by omega) (by omega)
    exact ⟨h1, h4, by have : vl p (l.drop k) ≤ 65536 := by omega
                      exact this⟩)
  have HX := hid_ (show ∀ (k : Nat) (x : Int), l[k]? = some x → 0 ≤ x ∧ x ≤ 256 from fun k x h => by have := hb x (List.mem_of_getElem? h); omega)
  have HN := hid_ (show vl p (l.drop l.length) = 0 by rw [List.drop_length]; rfl)
  clear hl s3 hb hq
  go_enter Tryz.func184, Tryz.ntmps184
  go_wp2_with fail
  go_loop [5, 6] (fun x' i' => ∃ k : Nat, k ≤ l.length ∧ i' = .int .i64 ((k : Int) - 1) ∧ x' = .int .i64 (vl p (l.drop k))) (fun _ i' => (intOf i' + 1).toNat)
  case atStart => exact ⟨l.length, by omega, rfl, by rw [HN.out]⟩
  case round =>
    obtain ⟨k, hk, rfl, rfl⟩ := hrel
    obtain ⟨r1, r2, r3⟩ := HR.out k
    rcases k with _ | k
    · have HF := hid_ HV.out
      generalize vl p (l.drop 0) = y at *
      go_wp2_with fail
      go_ret
      exact ⟨ret_int HF.out.symm, rfl⟩
    · have r0 : 0 ≤ vl p (l.drop (k + 1)) * (p : Int) := Int.mul_nonneg r1 (by omega)
      obtain ⟨x, hx⟩ : ∃ x, l[k]? = some x := ⟨_, List.getElem?_eq_getElem (by omega)⟩
      obtain ⟨b, o, rfl, hc⟩ := S3.out (by omega)
      have c1 := hc k x hx
      obtain ⟨x1, x2⟩ := HX.out k x hx
      have HG := hid_ (codGo p l k x hx)
      have e : (((k + 1 : Nat)) : Int) - 1 = k := by omega
      rw [e]
      clear hc hx e
      generalize vl p (l.drop (k + 1)) = y at *
      go_wp2_with fail
      go_round
      case rel => exact ⟨k, by omega, rfl, by rw [HG.out]⟩
      case measure => simp [intOf]
end Go.Proofs.YtgdmlmhpineibaaGreat
