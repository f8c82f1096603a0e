/- Walks of the reference of the package field: Order, prime, digits. -/
import Derived.Test.YtpphaicbdeeacaaFldF
namespace Go.Proofs.Ytpphaicbdeeacaa
set_option linter.unusedVariables false
set_option linter.unusedSimpArgs false
open Go.RowKit

theorem gt_div {q p : Int} (hp : 1 ≤ p) : 256 / p < q ↔ 256 < q * p := by
  constructor
  · intro h; exact Int.lt_mul_of_ediv_lt (by omega) h
  · intro h; exact Int.ediv_lt_of_lt_mul (by omega) h

set_option maxHeartbeats 1000000 in
theorem rOrder_any (p m : Int) (mv : Value) (w : World) :
    Calls Try.prog 59 #[.agg #[.int .i64 p, .int .i64 m, mv]] w fun r w' => r = .returned (.int .i64 (ordS p m)) ∧ Ex w w' := by
  obtain ⟨xb, hxb⟩ : ∃ xb, w.heap.size = xb := ⟨_, rfl⟩
  have d0 : (w.alloc (.cells #[.int .i64 p, .int .i64 m, mv] 24)).cell? ⟨xb, 0, none⟩ = some (.int .i64 p) := by rw [← hxb]; simp
  have d1 : (w.alloc (.cells #[.int .i64 p, .int .i64 m, mv] 24)).cell? ⟨xb, 1, none⟩ = some (.int .i64 m) := by rw [← hxb]; simp
  have e0 : Ex w (w.alloc (.cells #[.int .i64 p, .int .i64 m, mv] 24)) := (Ex.refl _).alloc _
  have D0 := hid_ d0
  have D1 := hid_ d1
  clear d0 d1
  by_cases h : 2 ≤ p ∧ 1 ≤ m ∧ m ≤ 8
  · obtain ⟨h1, h3, h4⟩ := h
    have HO := hid_ (show ordS p m = if p ^ m.toNat ≤ 256 then p ^ m.toNat else 0 by unfold ordS; by_cases h : p ^ m.toNat ≤ 256 <;> simp [h, h1, h3, h4])
    go_enter Try.func59, Try.ntmps59
    have d0 := D0.out
    have d1 := D1.out
    go_wp2
    clear hxb D0 D1
    generalize w.alloc (.cells #[.int .i64 p, .int .i64 m, mv] 24) = w1 at *
    go_loop [3, 4] (fun q' i' => ∃ i : Nat, i ≤ m.toNat ∧ i' = .int .i64 i ∧ q' = .int .i64 (p ^ i) ∧ 1 ≤ p ^ i ∧ p ^ i ≤ 256) (fun _ i' => m.toNat - (intOf i').toNat)
    case atStart => exact ⟨0, by omega, rfl, by simp, by simp, by simp⟩
    case round =>
      obtain ⟨i, hi, rfl, rfl, q1, q2⟩ := hrel
      have HS := hid_ (Int.pow_succ p i)
      have HM := hid_ (show i < m.toNat → p ^ (i + 1) ≤ p ^ m.toNat from fun h => pow_mono_ h1 h)
      have HG := hid_ (gt_div (q := p ^ i) (show 1 ≤ p by omega))
      have q4 : 1 ≤ p ^ i * p := by
        have := Int.mul_pos (show 0 < p ^ i by omega) (show 0 < p by omega)
        omega
      have e1 := Int.ediv_nonneg (show (0 : Int) ≤ 256 by omega) (show 0 ≤ p by omega)
      have e2 : 256 / p ≤ 256 := Int.ediv_le_self _ (by omega)
      by_cases hlt : (i : Int) < m
      · by_cases hq : 256 < p ^ i * p
        · have HB := HM.out (by omega)
          rw [HS.out] at HB
          have HN := hid_ (show ¬ p ^ m.toNat ≤ 256 by omega)
          have hg := HG.out.2 hq
          clear HB HM HG
          generalize p ^ i = y at *
          go_wp2
          go_ret
          exact ⟨ret_int (by rw [HO.out, if_neg (by have := HN.out; omega)]), e0⟩
        · have HE := hid_ (show p ^ (i + 1) = p ^ i * p from HS.out)
          have hg : ¬ 256 / p < p ^ i := fun h => hq (HG.out.1 h)
          have hg' : p ^ i ≤ 256 / p := by omega
          clear HM HS HG hg
          generalize p ^ i = y at *
          go_wp2
          go_round
          case rel => exact ⟨i + 1, by omega, by go_num, by rw [HE.out], by rw [HE.out]; omega, by rw [HE.out]; omega⟩
          case measure => simp [intOf]; omega
      · have hi' : i = m.toNat := by omega
        have HN := hid_ (show p ^ m.toNat = p ^ i by rw [hi'])
        clear HM HS HG
        generalize p ^ i = y at *
        go_wp2
        go_ret
        exact ⟨ret_int (by rw [HO.out, HN.out, if_pos q2]), e0⟩
  · have HO := hid_ (show ordS p m = 0 by
      unfold ordS
      rw [if_neg]
      rintro ⟨h1, h2, h3, h4⟩
      exact h ⟨h1, h2, h3⟩)
    have c : p < 2 ∨ (2 ≤ p ∧ m < 1) ∨ (2 ≤ p ∧ 1 ≤ m ∧ 8 < m) := by omega
    clear h
    rcases c with c | ⟨c1, c2⟩ | ⟨c1, c2, c3⟩
    all_goals
      go_enter Try.func59, Try.ntmps59
      have d0 := D0.out
      have d1 := D1.out
      go_wp2
      go_ret
      exact ⟨ret_int HO.out.symm, e0⟩

theorem prB_iff {n : Nat} (hn : 2 ≤ n) : prB n = true ↔ ∀ d, 2 ≤ d → d < n → n % d ≠ 0 := by
  unfold prB
  rw [decide_eq_true_iff]
  exact ⟨fun h d a b => h.2 d b a, fun h => ⟨hn, fun d a b => h d b a⟩⟩

set_option maxHeartbeats 1000000 in
theorem rprime_any (n : Nat) (w : World) (h1 : 2 ≤ n) (h2 : n ≤ 256) :
    Calls Try.prog 96 #[.int .i64 n] w fun r w' => r = .returned (.bool (prB n)) ∧ w = w' := by
  have HI := hid_ (prB_iff h1)
  go_enter Try.func96, Try.ntmps96
  go_wp2
  go_loop [3] (fun d' => ∃ d : Nat, 2 ≤ d ∧ d ≤ n ∧ d' = .int .i64 d ∧ Hid (∀ c, 2 ≤ c → c < d → n % c ≠ 0)) (fun d' => n - (intOf d').toNat)
  case atStart => exact ⟨2, by omega, by omega, rfl, hid_ (fun c a b => by omega)⟩
  case round =>
    obtain ⟨d, d1, d2, rfl, hall⟩ := hrel
    by_cases hlt : d < n
    · by_cases hd : n % d = 0
      · have hd' : ((n : Int) % (d : Int) == 0) = true := by simp; omega
        have HR := hid_ (show prB n = false by
          rw [← Bool.not_eq_true]; exact fun h => HI.out.1 h d d1 hlt hd)
        clear hd
        go_wp2
        go_ret
        exact ⟨ret_bool HR.out.symm, rfl⟩
      · have hd' : ((n : Int) % (d : Int) == 0) = false := by simp; omega
        have HA := hid_ (show ∀ c, 2 ≤ c → c < d + 1 → n % c ≠ 0 from fun c a b => by
          by_cases e : c = d
          · subst e; exact hd
          · exact hall.out c a (by omega))
        clear hd
        go_wp2
        go_round
        case rel => exact ⟨d + 1, by omega, by omega, by go_num, HA⟩
        case measure => simp [intOf]; omega
    · have HR := hid_ (HI.out.2 fun c a b => hall.out c a (by omega))
      go_wp2
      go_ret
      exact ⟨ret_bool HR.out.symm, rfl⟩

set_option maxRecDepth 100000 in
set_option maxHeartbeats 1000000 in
theorem rdigits_any (x p m : Nat) (w : World) (hx : x ≤ 65536) (hp : 1 ≤ p) (hp' : p ≤ 256) (hm : m ≤ 256) :
    Calls Try.prog 105 #[.int .i64 x, .int .i64 p, .int .i64 m] w fun r w' => ∃ v, r = .returned v ∧ (∃ g, v = .slice (some ⟨g, 0, none⟩) m m ∧ w.heap.size ≤ g ∧ Own w' w.heap.size 3 g m (iv (dig p m x))) ∧ Ex w w' := by
  go_enter Try.func105, Try.ntmps105
  go_wp2_with (at_make; refine wpList_make_arr _ rfl _ _ 22 rfl 3 (.int .i64 0) 8 Try.underlying22 infoInt rfl _ m rfl rfl rfl (by omega) (by unfold maxLen; omega) ?_)
  intro w1 hown hx1
  obtain ⟨g, hg⟩ : ∃ g, w.heap.size = g := ⟨_, rfl⟩
  have hown1 : Own w1 g 3 g m (iv fun j => if j < 0 then dig p m x j else 0) := by
    rw [hg] at hown
    exact hown.congr fun j _ => by simp [iv]
  have HG := hid_ hg
  simp only [hg]
  clear hown hg
  go_wp2_with fail
  go_loopw [0, 8] (fun x' k' wr => ∃ k : Nat, k ≤ m ∧ k' = .int .i64 k ∧ x' = .int .i64 ((x / p ^ k : Nat) : Int) ∧ Own wr g 3 g m (iv fun j => if j < k then dig p m x j else 0) ∧ Ex w wr) (fun _ k' _ => m - (intOf k').toNat)
  case atStart => exact ⟨0, by omega, rfl, by simp, hown1, hx1⟩
  case round =>
    clear hown1 hx1
    obtain ⟨k, hk, rfl, rfl, hown, hx1⟩ := hrel
    have hxk : x / p ^ k ≤ 65536 := Nat.le_trans (Nat.div_le_self _ _) hx
    have HS := hid_ (show x / p ^ (k + 1) = x / p ^ k / p by rw [Nat.pow_succ, Nat.div_div_eq_div_mul])
    have HD := hid_ (show k < m → dig p m x k = ((x / p ^ k % p : Nat) : Int) from fun h => by unfold dig; rw [if_pos h])
    generalize x / p ^ k = y at *
    by_cases hlt : k < m
    · have hf := hown.frz k
      have hc := hown.cell hlt
      have HO := hid_ (hown.set k (.int .i64 ((y : Int) % (p : Int))))
      have HE := hid_ (hown.exSet (by rw [HG.out]; exact Nat.le_refl _) hx1 k (.int .i64 ((y : Int) % (p : Int))))
      clear hown hx1
      go_wp2_with fail
      go_roundw
      case rel =>
        refine ⟨k + 1, by omega, by go_num, by rw [HS.out, w64_div _ _ (by omega)], ?_, HE.out⟩
        have := HO.out
        rw [iv_upd] at this
        refine this.icongr fun j hj => ?_
        unfold upd
        dsimp only
        by_cases h : j = k
        · subst h; rw [if_pos rfl, if_pos (by omega), HD.out hlt]; simp
        · rw [if_neg h]
          by_cases h2 : j < k
          · rw [if_pos h2, if_pos (by omega)]
          · rw [if_neg h2, if_neg (by omega)]
      case measure => simp [intOf]; omega
    · obtain rfl : k = m := by omega
      have hown' : Own wr g 3 g k (iv (dig p k x)) := hown.icongr fun j hj => by rw [if_pos hj]
      have HO := hid_ hown'
      clear hown hown' HD HS
      go_wp2_with fail
      go_ret
      exact ⟨_, rfl, ⟨g, rfl, by rw [HG.out]; exact Nat.le_refl _, by rw [HG.out]; exact HO.out⟩, hx1⟩
end Go.Proofs.Ytpphaicbdeeacaa
