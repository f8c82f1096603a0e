/- slices.Index, Contains, Clone at []int; the closures of peel.Peel. -/
import Derived.Test.YtpphaicbdeeacaaPeelE
import Derived.Test.YtpphaicbdeeacaaFldJ
namespace Go.Proofs.Ytpphaicbdeeacaa
set_option linter.unusedVariables false
set_option linter.unusedSimpArgs false
open Go.RowKit

set_option maxRecDepth 100000 in
set_option maxHeartbeats 1000000 in
theorem Index_any (w : World) (l : List Int) (v : Value) (x : Int) (hl : ISl w v l) :
    Calls Try.prog 89 #[v, .int .i64 x] w fun r w' => r = .returned (.int .i64 (fstI (fun j => x == l.getD j 0) l.length)) ∧ w = w' := by
  obtain ⟨a, cap, rfl, s1, s2, s3⟩ := hl.open
  have S3 := hid_ s3
  unfold maxLen at s2
  obtain ⟨pr, hpr⟩ : ∃ pr : Nat → Bool, (fun j => x == l.getD j 0) = pr := ⟨_, rfl⟩
  have HPR := hid_ (show ∀ (j : Nat) (y : Int), l[j]? = some y → pr j = (x == y) from fun j y h => by rw [← hpr]; show (x == l.getD j 0) = _; rw [List.getD_eq_getElem?_getD, h]; rfl)
  rw [hpr]
  clear hl s3 hpr
  go_enter Try.func89, Try.ntmps89
  go_wp2_with fail
  go_loop [5, 8] (fun _ i' => ∃ i : Nat, i ≤ l.length ∧ i' = .int .i64 i ∧ Hid (∀ j, j < i → pr j = false)) (fun _ i' => l.length - (intOf i').toNat)
  case atStart => exact ⟨0, by omega, rfl, hid_ (fun j hj => by omega)⟩
  case round =>
    obtain ⟨i, hi, rfl, hall⟩ := hrel
    by_cases hlt : i < l.length
    · obtain ⟨y, hy⟩ : ∃ y, l[i]? = some y := ⟨_, List.getElem?_eq_getElem hlt⟩
      obtain ⟨bb, o, rfl, hc⟩ := S3.out (by omega)
      have c1 := hc i y hy
      have HP := hid_ (HPR.out i y hy)
      clear hc hy
      cases hb : (x == y) with
      | true =>
        have HF := hid_ (fstI_hit hlt (HP.out.trans hb) hall.out)
        go_wp2_with fail
        go_ret
        exact ⟨ret_int HF.out.symm, rfl⟩
      | false =>
        have HA := hid_ (show ∀ j, j < i + 1 → pr j = false from fun j hj => by
          by_cases e : j = i
          · subst e; exact HP.out.trans hb
          · exact hall.out j (by omega))
        go_wp2_with fail
        go_round
        case rel => exact ⟨i + 1, by omega, by go_num, HA⟩
        case measure => simp [intOf]; omega
    · obtain rfl : i = l.length := by omega
      have HF := hid_ (fstI_miss hall.out)
      go_wp2_with fail
      go_ret
      exact ⟨ret_int HF.out.symm, rfl⟩

theorem any_eq_contains (x : Int) (l : List Int) : ((List.range l.length).any fun j => x == l.getD j 0) = l.contains x := by
  rw [Bool.eq_iff_iff]
  simp only [List.any_eq_true, List.mem_range, List.contains_iff_mem, beq_iff_eq, List.getD_eq_getElem?_getD]
  constructor
  · rintro ⟨j, hj, e⟩
    rw [List.getElem?_eq_getElem hj] at e
    rw [e]; exact List.getElem_mem hj
  · intro h
    obtain ⟨j, hj, e⟩ := List.getElem_of_mem h
    exact ⟨j, hj, by rw [List.getElem?_eq_getElem hj, e]; rfl⟩

set_option maxRecDepth 100000 in
set_option maxHeartbeats 1000000 in
theorem Contains_any (w : World) (l : List Int) (v : Value) (x : Int) (hl : ISl w v l) :
    Calls Try.prog 65 #[v, .int .i64 x] w fun r w' => r = .returned (.bool (l.contains x)) ∧ w = w' := by
  have HC := hid_ (Index_any w l v x hl)
  have HB := hid_ ((any_eq_contains x l).symm.trans (fstI_any _ _))
  obtain ⟨z, hz⟩ : ∃ z, fstI (fun j => x == l.getD j 0) l.length = z := ⟨_, rfl⟩
  rw [hz] at HC HB
  clear hz hl
  go_enter Try.func65, Try.ntmps65
  go_wp2_with (go_at_call 89; refine HC.out.mono ?_; rintro e w' ⟨rfl, rfl⟩)
  go_ret
  exact ⟨ret_bool HB.out.symm, rfl⟩

theorem ints_vs (l : List Int) : ints l = vs l.length (iv fun j => l.getD j 0) := by
  apply List.ext_getElem?
  intro j
  by_cases h : j < l.length
  · rw [vs_get h]; simp [ints, iv, h, List.getD_eq_getElem?_getD]
  · rw [List.getElem?_eq_none_iff.2 (by rw [ints_length]; omega), List.getElem?_eq_none_iff.2 (by rw [vs_length]; omega)]

set_option maxRecDepth 100000 in
set_option maxHeartbeats 1000000 in
theorem Clone_any (w : World) (l : List Int) (v : Value) (hl : ISl w v l) (hn : 1 ≤ l.length) (hn2 : l.length ≤ 1000) :
    Calls Try.prog 64 #[v] w fun r w' => ∃ g cap, r = .returned (.slice (some ⟨g, 0, none⟩) l.length cap) ∧ OwnC w' w.heap.size 3 g l.length cap (iv fun j => l.getD j 0) ∧ Ex w w' := by
  have HL := hid_ hl
  obtain ⟨a, cap, rfl, s1, s2, s3⟩ := hl.open
  obtain ⟨b, o, rfl, _⟩ := s3 (by omega)
  have hnil := fun w' => run_eql_slice_nil (P := Try.prog) w' 22 3 (some ⟨b, o, none⟩) l.length cap Try.underlying22
  simp only [Option.isNone] at hnil
  have hmi : ∀ u ∈ ints l, u.oneCell' = true := by
    intro u hu; obtain ⟨z, _, rfl⟩ := List.mem_map.1 hu; rfl
  have HON := hid_ hmi
  have HIV := hid_ (ints_vs l)
  clear s3 hl hmi
  go_enter Try.func64, Try.ntmps64
  go_wp2_with (at_builtin; refine wpList_append_sl _ rfl _ _ 22 rfl w.heap.size 3 (.int .i64 0) 1 8 Try.underlying22 infoInt rfl (by decide) _ 0 [] rfl (own_lit0 w 3) (.slice (some ⟨b, o, none⟩) l.length cap) l.length (ints l) rfl (HL.out.ex ((Ex.refl w).alloc _)) HON.out (by unfold maxLen; omega) (by omega) (by simp) ?_)
  intro v1 w1 hown1 hg1 ha1
  have hx1 : Ex w w1 := Ex.grown ((Ex.refl w).alloc _) (own_lit0 w 3) (Nat.le_refl _) hg1
  rw [HIV.out] at hown1
  obtain ⟨g, c2, rfl, hown⟩ := ownC_of hown1 hn
  have HO := hid_ hown
  have HX := hid_ hx1
  clear hown hown1 hg1 ha1 hx1 hnil
  go_wp2_with fail
  go_ret
  exact ⟨g, c2, rfl, HO.out, HX.out⟩

set_option maxRecDepth 100000 in
set_option maxHeartbeats 1000000 in
theorem Peel1_any (w : World) (B b p m x0 : Nat) (ml : List Int) (c0 : w.cell? ⟨B, 0, none⟩ = some (.pointer (some ⟨b, 0, none⟩))) (hg : GFat w b p m ml x0) (x : Int) :
    Calls Try.prog 62 #[.int .i64 x, .pointer (some ⟨B, 0, none⟩)] w fun r w' => r = .returned (.bool (!isB (p ^ m) x)) ∧ ∃ q, w' = w.drewN q := by
  have HI := hid_ (Is_any w hg x)
  obtain ⟨z, hz⟩ : ∃ z, isB (p ^ m) x = z := ⟨_, rfl⟩
  rw [hz] at HI ⊢
  clear hg hz
  go_enter Try.func62, Try.ntmps62
  go_wp2_with (go_at_call 63; refine HI.out.mono ?_; rintro e w' ⟨rfl, q, rfl⟩)
  go_ret
  exact ⟨rfl, q, rfl⟩

set_option maxRecDepth 100000 in
set_option maxHeartbeats 1000000 in
theorem Peel2_any (w : World) (ib nb N k : Nat) (i : Int) (v : Value) (f : Nat → Bool) (c0 : w.cell? ⟨ib, 0, none⟩ = some (.int .i64 i)) (c1 : w.cell? ⟨nb, 0, none⟩ = some v) (hf : Sl w v N 1 (vs N (bv f))) (hk : k < N) :
    Calls Try.prog 66 #[.int .i64 k, .pointer (some ⟨ib, 0, none⟩), .pointer (some ⟨nb, 0, none⟩)] w fun r w' => r = .returned (.bool ((k : Int) != i && f k)) ∧ ∃ q, w' = w.drewN q := by
  obtain ⟨a, cap, rfl, s1, s2, s3⟩ := hf.bget
  obtain ⟨b, o, rfl, s4⟩ := s3 (by omega)
  have c2 := s4 k hk
  unfold maxLen at s2
  clear hf s3 s4
  by_cases he : (k : Int) = i
  · have hb : ((k : Int) != i) = false := by simpa using he
    have HB := hid_ hb
    clear he
    go_enter Try.func66, Try.ntmps66
    go_wp2_with fail
    go_ret
    exact ⟨by rw [HB.out]; rfl, 0, rfl⟩
  · have hb : ((k : Int) != i) = true := by simpa using he
    have HB := hid_ hb
    clear he
    obtain ⟨z, hz⟩ : ∃ z, f k = z := ⟨_, rfl⟩
    rw [hz] at c2 ⊢
    clear hz
    go_enter Try.func66, Try.ntmps66
    go_wp2_with fail
    go_ret
    exact ⟨by rw [HB.out, Bool.true_and]; rfl, 0, rfl⟩

set_option maxRecDepth 100000 in
set_option maxHeartbeats 1000000 in
theorem Peel3_any (w : World) (nb N k : Nat) (v : Value) (f : Nat → Bool) (c1 : w.cell? ⟨nb, 0, none⟩ = some v) (hf : Sl w v N 1 (vs N (bv f))) (hk : k < N) :
    Calls Try.prog 70 #[.int .i64 k, .pointer (some ⟨nb, 0, none⟩)] w fun r w' => r = .returned (.bool (f k)) ∧ ∃ q, w' = w.drewN q := by
  obtain ⟨a, cap, rfl, s1, s2, s3⟩ := hf.bget
  obtain ⟨b, o, rfl, s4⟩ := s3 (by omega)
  have c2 := s4 k hk
  unfold maxLen at s2
  clear hf s3 s4
  obtain ⟨z, hz⟩ : ∃ z, f k = z := ⟨_, rfl⟩
  rw [hz] at c2 ⊢
  clear hz
  go_enter Try.func70, Try.ntmps70
  go_wp2_with fail
  go_ret
  exact ⟨rfl, 0, rfl⟩
end Go.Proofs.Ytpphaicbdeeacaa
