/- Walk of awake. -/
import Derived.Test.YtdnmhjpeklaijaaNumB
import Derived.Test.YtdnmhjpeklaijaaNumF
import Derived.Test.YtdnmhjpeklaijaaNumH
import Derived.Test.YtdnmhjpeklaijaaNumJ
namespace Go.Proofs.Ytdnmhjpeklaijaa
set_option linter.unusedVariables false
set_option linter.unusedSimpArgs false
open Go.RowKit

theorem halfX_val {a n g x : Int} (h : HalfOut a n g x) : halfX a n = x := (halfX_of h).2.symm
theorem hx_12_18 : halfX 12 18 = 2 := halfX_val (g := 6) (by unfold HalfOut; decide)
theorem hx_3_7 : halfX 3 7 = 5 := halfX_val (g := 1) (by unfold HalfOut; decide)
theorem hx_1_3 : halfX 1 3 = 1 := halfX_val (g := 1) (by unfold HalfOut; decide)
theorem hx_3_5 : halfX 3 5 = 2 := halfX_val (g := 1) (by unfold HalfOut; decide)

theorem v_bez : bezS 12 18 = (6, 2, -1, 0) := by
  have h1 : (12 : Int) % ((18 : Int).natAbs : Int) = 12 := by decide
  unfold bezS
  rw [if_pos (by decide), if_neg (by decide), h1, show ((18 : Int).natAbs : Int) = 18 from rfl, hx_12_18]
  decide
theorem v_inv : inverseS 3 7 = (5, 0) := by
  unfold inverseS
  rw [if_pos (by decide), if_pos (by decide), show (3 : Int) % 7 = 3 from rfl, hx_3_7]
theorem v_ord : ordP (2 % 7) 7 = 3 := by decide
theorem v_pow : powerS 3 5 7 = (5, 0) := by decide
theorem v_phi : phi 36 = 12 := by decide
theorem v_moe : moe 30 = -1 := by decide
theorem v_chin : chinS [2, 3] [3, 5] = (8, 15, 0) := by
  unfold chinS
  rw [if_neg (by decide), if_neg (by decide), if_neg (by decide)]
  have h1 : chinT 0 1 2 3 = 2 := by
    unfold chinT
    rw [show (1 : Int) % 3 = 1 from rfl, hx_1_3]; decide
  have h2 : chinT 2 3 3 5 = 2 := by
    unfold chinT
    rw [show (3 : Int) % 5 = 3 from rfl, hx_3_5]; decide
  have e1 : (0 : Int) + 1 * 2 = 2 := rfl
  have e2 : (1 : Int) * 3 = 3 := rfl
  simp only [chinGo]
  rw [if_pos (by decide), h1, e1, e2, if_pos (by decide), h2]
  rfl
theorem v_exp1 : expS 2 16 65536 = (65536, 0) := by decide
theorem v_exp2 : expS 2 17 65536 = (0, 8) := by decide
theorem v_choose : chooseS 5 2 100 = (10, 0) := by decide
theorem v_prod : prodS 10 [] = (1, 0) := by decide
theorem v_prime5 : primeB 5 = true := by decide
theorem v_prime1 : primeB 1 = false := by decide
theorem v_pp : ppS 243 = (3, 5, 0) := by decide
theorem v_facs : facs 360 = [(2, 3), (3, 2), (5, 1)] := by decide

theorem k_factor (w : World) : Calls Try.prog 17 #[.int .i64 360] w fun r w' => ∃ b o cap, r = .returned (.tuple #[.slice (some ⟨b, o, none⟩) 3 cap, .int .i64 0]) ∧ 3 ≤ cap ∧
    w'.cell? ⟨b, o, none⟩ = some (.int .i64 2) ∧ w'.cell? ⟨b, o + 1, none⟩ = some (.int .i64 3) ∧ w'.cell? ⟨b, o + 2, none⟩ = some (.int .i64 3) ∧ w'.cell? ⟨b, o + 2 + 1, none⟩ = some (.int .i64 2) ∧ w'.cell? ⟨b, o + 4, none⟩ = some (.int .i64 5) ∧ w'.cell? ⟨b, o + 4 + 1, none⟩ = some (.int .i64 1) ∧ Ex w w' := by
  refine (Factor_yes 360 w (by omega) (by omega)).mono ?_
  rintro e w' ⟨v, rfl, hsl, hx⟩
  rw [v_facs] at hsl
  obtain ⟨sa, cap, rfl, s1, s2, s3⟩ := PSl.open hsl
  obtain ⟨b, o, rfl, hc⟩ := s3 (by decide)
  obtain ⟨a0, b0⟩ := hc 0 (2, 3) rfl
  obtain ⟨a1, b1⟩ := hc 1 (3, 2) rfl
  obtain ⟨a2, b2⟩ := hc 2 (5, 1) rfl
  exact ⟨b, o, cap, rfl, s1, a0, b0, a1, b1, a2, b2, hx⟩

theorem k_pp (w : World) : Calls Try.prog 41 #[.int .i64 243] w fun r w' => r = .returned (.tuple #[.int .i64 3, .int .i64 5, .int .i64 0]) ∧ Ex w w' := by
  have := PrimePower_any 243 w; rw [v_pp] at this; exact this
theorem k_bez (w : World) : Calls Try.prog 37 #[.int .i64 12, .int .i64 18] w fun r w' => r = .returned (.tuple #[.int .i64 6, .int .i64 2, .int .i64 (-1), .int .i64 0]) ∧ Ex w w' := by
  have := Bezout_any 12 18 w; rw [v_bez] at this; exact this
theorem k_inv (w : World) : Calls Try.prog 20 #[.int .i64 3, .int .i64 7] w fun r w' => r = .returned (.tuple #[.int .i64 5, .int .i64 0]) ∧ w = w' := by
  have := inverse_any 3 7 w (by omega) (by omega); rw [v_inv] at this; exact this
theorem k_ord (w : World) : Calls Try.prog 24 #[.int .i64 2, .int .i64 7] w fun r w' => r = .returned (.tuple #[.int .i64 3, .int .i64 0]) ∧ Ex w w' := by
  have := Order_yes 2 7 w (by omega) (by omega) (by omega) (by omega) (by decide); rw [v_ord] at this; exact this
theorem k_pow (w : World) : Calls Try.prog 22 #[.int .i64 3, .int .i64 5, .int .i64 7] w fun r w' => r = .returned (.tuple #[.int .i64 5, .int .i64 0]) ∧ w = w' := by
  have := Power_any 3 5 7 w (by omega) (by omega) (by omega); rw [v_pow] at this; exact this
theorem k_phi (w : World) : Calls Try.prog 39 #[.int .i64 36] w fun r w' => r = .returned (.tuple #[.int .i64 12, .int .i64 0]) ∧ Ex w w' := by
  have := Phi_yes 36 w (by omega) (by omega); rw [v_phi] at this; exact this
theorem k_moe (w : World) : Calls Try.prog 48 #[.int .i64 30] w fun r w' => r = .returned (.tuple #[.int .i64 (-1), .int .i64 0]) ∧ Ex w w' := by
  have := Moebius_yes 30 w (by omega) (by omega); rw [v_moe] at this; exact this
theorem k_chin (v1 v2 : Value) (w : World) (h1 : ISl w v1 [2, 3]) (h2 : ISl w v2 [3, 5]) : Calls Try.prog 26 #[v1, v2] w fun r w' => r = .returned (.tuple #[.int .i64 8, .int .i64 15, .int .i64 0]) ∧ Ex w w' := by
  have := Chinese_any [2, 3] [3, 5] v1 v2 w h1 h2 (by decide); rw [v_chin] at this; exact this
theorem k_exp1 (w : World) : Calls Try.prog 31 #[.int .i64 2, .int .i64 16, .int .i64 65536] w fun r w' => r = .returned (.tuple #[.int .i64 65536, .int .i64 0]) ∧ Ex w w' := by
  have := Exp_any 2 16 65536 w (by omega) (by omega) (by omega); rw [v_exp1] at this; exact this
theorem k_exp2 (w : World) : Calls Try.prog 31 #[.int .i64 2, .int .i64 17, .int .i64 65536] w fun r w' => r = .returned (.tuple #[.int .i64 0, .int .i64 8]) ∧ Ex w w' := by
  have := Exp_any 2 17 65536 w (by omega) (by omega) (by omega); rw [v_exp2] at this; exact this
theorem k_choose (w : World) : Calls Try.prog 33 #[.int .i64 5, .int .i64 2, .int .i64 100] w fun r w' => r = .returned (.tuple #[.int .i64 10, .int .i64 0]) ∧ Ex w w' := by
  have := Choose_any 5 2 100 w (by omega) (by omega) (by omega); rw [v_choose] at this; exact this
theorem k_prod (w : World) : Calls Try.prog 29 #[.int .i64 10, .slice none 0 0] w fun r w' => r = .returned (.tuple #[.int .i64 1, .int .i64 0]) ∧ Ex w w' := by
  have := Product_any 10 [] (.slice none 0 0) w (Sl.nil w 1) (by omega) (by intro x h; cases h); rw [v_prod] at this; exact this
theorem k_prime5 (w : World) : Calls Try.prog 18 #[.int .i64 5] w fun r w' => r = .returned (.bool true) ∧ Ex w w' := by
  have := Prime_any 5 w; rw [v_prime5] at this; exact this
theorem k_prime1 (w : World) : Calls Try.prog 18 #[.int .i64 1] w fun r w' => r = .returned (.bool false) ∧ Ex w w' := by
  have := Prime_any 1 w; rw [v_prime1] at this; exact this

set_option maxHeartbeats 2000000 in
theorem isl2 (w : World) (a b : Int) (t : TypeId) : ISl (w.alloc (.cells #[.int .i64 a, .int .i64 b] t)) (.slice (some ⟨w.heap.size, 0, none⟩) 2 2) [a, b] := by
  refine ⟨rfl, some ⟨w.heap.size, 0, none⟩, 2, rfl, Nat.le_refl _, by unfold maxLen; omega, fun _ => ⟨_, _, rfl, fun j u h => ?_⟩⟩
  rcases j with _ | _ | j
  · simp [ints] at h; subst h; simp
  · simp [ints] at h; subst h; simp
  · simp [ints] at h
theorem isl2_past (w : World) (a b : Int) (t : TypeId) (o : Obj) : ISl ((w.alloc (.cells #[.int .i64 a, .int .i64 b] t)).alloc o) (.slice (some ⟨w.heap.size, 0, none⟩) 2 2) [a, b] :=
  (isl2 w a b t).ex ((Ex.refl _).alloc _)
theorem isl2_next (w : World) (a b : Int) (t : TypeId) (o : Obj) : ISl ((w.alloc o).alloc (.cells #[.int .i64 a, .int .i64 b] t)) (.slice (some ⟨w.heap.size + 1, 0, none⟩) 2 2) [a, b] := by
  have h := isl2 (w.alloc o) a b t
  rwa [World.size_alloc] at h

set_option maxRecDepth 100000 in
theorem awake_any (w : World) : Calls Try.prog 16 #[] w fun r w' => r = .returned (.bool true) ∧ Ex w w' := by
  go_enter Try.func16, Try.ntmps16
  go_wp2_with fail
  refine (k_factor _).mono ?_
  rintro e w1 ⟨b, o, cap, rfl, hcap, c0, c1, c2, c3, c4, c5, hx1⟩
  go_wp2_with fail
  refine (k_pp _).mono ?_
  rintro e w2 ⟨rfl, hx2⟩
  go_wp2_with fail
  refine (k_bez _).mono ?_
  rintro e w3 ⟨rfl, hx3⟩
  go_wp2_with fail
  refine (k_inv _).mono ?_
  rintro e w4 ⟨rfl, rfl⟩
  go_wp2_with fail
  refine (k_ord _).mono ?_
  rintro e w5 ⟨rfl, hx5⟩
  go_wp2_with fail
  refine (k_pow _).mono ?_
  rintro e w6 ⟨rfl, rfl⟩
  go_wp2_with fail
  refine (k_phi _).mono ?_
  rintro e w7 ⟨rfl, hx7⟩
  go_wp2_with fail
  refine (k_moe _).mono ?_
  rintro e w8 ⟨rfl, hx8⟩
  go_wp2_with fail
  refine (k_chin _ _ _ (isl2_past _ _ _ _ _) (isl2_next _ _ _ _ _)).mono ?_
  rintro e w9 ⟨rfl, hx9⟩
  go_wp2_with fail
  refine (k_exp1 _).mono ?_
  rintro e w10 ⟨rfl, hx10⟩
  go_wp2_with fail
  refine (k_choose _).mono ?_
  rintro e w11 ⟨rfl, hx11⟩
  go_wp2_with fail
  refine (k_prod _).mono ?_
  rintro e w12 ⟨rfl, hx12⟩
  go_wp2_with fail
  refine (k_exp2 _).mono ?_
  rintro e w13 ⟨rfl, hx13⟩
  go_wp2_with fail
  refine (k_prime5 _).mono ?_
  rintro e w14 ⟨rfl, hx14⟩
  go_wp2_with fail
  refine (k_prime1 _).mono ?_
  rintro e w15 ⟨rfl, hx15⟩
  go_wp2_with fail
  go_ret
  exact ⟨rfl, ((((((((hx1.trans hx2).trans hx3).trans hx5).trans hx7).trans hx8).trans (((Ex.refl _).alloc _).alloc _)).trans hx9).trans hx10).trans (hx11.trans (hx12.trans (hx13.trans (hx14.trans hx15))))⟩
end Go.Proofs.Ytdnmhjpeklaijaa
