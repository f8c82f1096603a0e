/- Walk of awake of chapter 31. -/
import Derived.Test.YtgdmlmhpineibaaGreatZd48
namespace Go.Proofs.YtgdmlmhpineibaaGreat
set_option linter.unusedVariables false
set_option linter.unusedSimpArgs false
open Go.RowKit

theorem box2 {w : World} {b : Nat} {u0 u1 : Value} (h0 : w.cell? ⟨b, 0, none⟩ = some u0) (h1 : w.cell? ⟨b, 1, none⟩ = some u1) : BoxAt w b [u0, u1] := fun i v a => by
  match i, a with
  | 0, a => simp at a; subst a; exact h0
  | 1, a => simp at a; subst a; exact h1
  | i + 2, a => simp at a
theorem box3 {w : World} {b : Nat} {u0 u1 u2 : Value} (h0 : w.cell? ⟨b, 0, none⟩ = some u0) (h1 : w.cell? ⟨b, 1, none⟩ = some u1) (h2 : w.cell? ⟨b, 2, none⟩ = some u2) : BoxAt w b [u0, u1, u2] := fun i v a => by
  match i, a with
  | 0, a => simp at a; subst a; exact h0
  | 1, a => simp at a; subst a; exact h1
  | 2, a => simp at a; subst a; exact h2
  | i + 3, a => simp at a
theorem box5 {w : World} {b : Nat} {u0 u1 u2 u3 u4 : Value} (h0 : w.cell? ⟨b, 0, none⟩ = some u0) (h1 : w.cell? ⟨b, 1, none⟩ = some u1) (h2 : w.cell? ⟨b, 2, none⟩ = some u2) (h3 : w.cell? ⟨b, 3, none⟩ = some u3) (h4 : w.cell? ⟨b, 4, none⟩ = some u4) : BoxAt w b [u0, u1, u2, u3, u4] := fun i v a => by
  match i, a with
  | 0, a => simp at a; subst a; exact h0
  | 1, a => simp at a; subst a; exact h1
  | 2, a => simp at a; subst a; exact h2
  | 3, a => simp at a; subst a; exact h3
  | 4, a => simp at a; subst a; exact h4
  | i + 5, a => simp at a
theorem rsl_lit1 (w : World) (e : Rf) (mv : Value) (t : TypeId) (h : ISl w mv e.msg) {B : Nat} (hB : w.heap.size = B) : RSl (w.alloc (.cells #[.int .i64 e.tp, .int .i64 e.sc, .int .i64 e.side, mv] t)) (.slice (some ⟨B, 0, none⟩) 1 1) [e] := by
  subst hB
  refine ⟨[mv], rfl, ⟨rfl, some ⟨w.heap.size, 0, none⟩, 1, rfl, Nat.le_refl _, by unfold maxLen; omega, fun _ => ⟨_, 0, rfl, fun j u hu => ?_⟩⟩, fun i e' mv' a b => ?_⟩
  · rw [Nat.zero_add]; simpa [rfC, Rf.cells] using hu
  · match i, a, b with
    | 0, a, b => simp at a b; subst a b; exact h.ex (e_al _ _)
    | i + 1, a, b => simp at a
set_option maxRecDepth 100000 in
set_option maxHeartbeats 8000000 in
theorem awake_any (w : World) : Calls Tryz.prog 12 #[] w fun r w' => r = .returned (.bool true) ∧ Ex w w' := by
  go_enter Tryz.func12, Tryz.ntmps12
  go_wp2_with fail
  obtain ⟨eW, f0, f1, f2, t0, t1, t2, i2, i3, c0, c1, c2, c3, c4, i5, i6, d0, d1, d2, d3, d4, i8, i9, p0, p1⟩ := eqW_facts w
  change Calls Tryz.prog 29 _ (eqW11 w) _
  generalize eqW11 w = W at *
  clear f0 f1 f2 i2 i5
  obtain ⟨B1, hB1⟩ : ∃ B, w.heap.size + 1 = B := ⟨_, rfl⟩
  rw [hB1] at t0 t1 t2 i3 c0 c1 c2 c3 c4 i6 d0 d1 d2 d3 d4 i8 i9 p0 p1
  try simp only [hB1]
  obtain ⟨B3, hB3⟩ : ∃ B, B1 + 1 + 1 = B := ⟨_, rfl⟩
  rw [hB3] at i3 c0 c1 c2 c3 c4 i6 d0 d1 d2 d3 d4 i8 i9 p0 p1
  try simp only [hB3]
  obtain ⟨B4, hB4⟩ : ∃ B, B3 + 1 = B := ⟨_, rfl⟩
  rw [hB4] at c0 c1 c2 c3 c4 i6 d0 d1 d2 d3 d4 i8 i9 p0 p1
  try simp only [hB4]
  obtain ⟨B6, hB6⟩ : ∃ B, B4 + 1 + 1 = B := ⟨_, rfl⟩
  rw [hB6] at i6 d0 d1 d2 d3 d4 i8 i9 p0 p1
  try simp only [hB6]
  obtain ⟨B7, hB7⟩ : ∃ B, B6 + 1 = B := ⟨_, rfl⟩
  rw [hB7] at d0 d1 d2 d3 d4 i8 i9 p0 p1
  try simp only [hB7]
  obtain ⟨B8, hB8⟩ : ∃ B, B7 + 1 = B := ⟨_, rfl⟩
  rw [hB8] at i8 i9 p0 p1
  try simp only [hB8]
  obtain ⟨B9, hB9⟩ : ∃ B, B8 + 1 = B := ⟨_, rfl⟩
  rw [hB9] at i9 p0 p1
  try simp only [hB9]
  obtain ⟨B10, hB10⟩ : ∃ B, B9 + 1 = B := ⟨_, rfl⟩
  rw [hB10] at p0 p1
  try simp only [hB10]
  clear hB1 hB3 hB4 hB6 hB7 hB8 hB9 hB10
  have EX := hid_ eW
  have GC := hid_ i3
  have GD := hid_ i6
  have I8 := hid_ i8
  have I9 := hid_ i9
  have BT := hid_ (box3 t0 t1 t2)
  have BC := hid_ (box5 c0 c1 c2 c3 c4)
  have BD := hid_ (box5 d0 d1 d2 d3 d4)
  have BP := hid_ (box2 p0 p1)
  clear eW i3 i6 i8 i9 t0 t1 t2 c0 c1 c2 c3 c4 d0 d1 d2 d3 d4 p0 p1
  refine (k_find _ _ _ GC.out GD.out).mono ?_
  rintro e w1 ⟨ma, mc, sa, sc, rfl, hm, hs, hx1⟩
  replace GC := hid_ (GC.out.ex hx1)
  replace GD := hid_ (GD.out.ex hx1)
  replace I8 := hid_ (I8.out.ex hx1)
  replace I9 := hid_ (I9.out.ex hx1)
  replace BT := hid_ (BT.out.ex hx1)
  replace BC := hid_ (BC.out.ex hx1)
  replace BD := hid_ (BD.out.ex hx1)
  replace BP := hid_ (BP.out.ex hx1)
  replace EX := hid_ (EX.out.trans hx1)
  have M1 := hid_ hm
  have M2 := hid_ hs
  clear hx1 hm hs
  have ex1 := e_al w1 (.cells #[.slice ma 3 mc, .slice sa 3 sc, .int .i64 0] 26)
  replace GC := hid_ (GC.out.ex ex1)
  replace GD := hid_ (GD.out.ex ex1)
  replace I8 := hid_ (I8.out.ex ex1)
  replace I9 := hid_ (I9.out.ex ex1)
  replace BT := hid_ (BT.out.ex ex1)
  replace BC := hid_ (BC.out.ex ex1)
  replace BD := hid_ (BD.out.ex ex1)
  replace BP := hid_ (BP.out.ex ex1)
  replace M1 := hid_ (M1.out.ex ex1)
  replace M2 := hid_ (M2.out.ex ex1)
  replace EX := hid_ (EX.out.trans ex1)
  have BM := hid_ (boxAt_new w1 [.slice ma 3 mc, .slice sa 3 sc, .int .i64 0] _ 26 rfl)
  clear ex1
  go_upto_region 7 with fail
  obtain ⟨B11, hB11⟩ : ∃ B, w1.heap.size = B := ⟨_, rfl⟩
  rw [hB11] at BM
  try simp only [hB11]
  clear hB11
  generalize w1.alloc (.cells #[.slice ma 3 mc, .slice sa 3 sc, .int .i64 0] 26) = v1 at *
  have bc_0 := BC.out 0 _ rfl
  have bc_1 := BC.out 1 _ rfl
  have bc_2 := BC.out 2 _ rfl
  have bc_3 := BC.out 3 _ rfl
  have bc_4 := BC.out 4 _ rfl
  have bd_0 := BD.out 0 _ rfl
  have bd_1 := BD.out 1 _ rfl
  have bd_2 := BD.out 2 _ rfl
  have bd_3 := BD.out 3 _ rfl
  have bd_4 := BD.out 4 _ rfl
  have bp_0 := BP.out 0 _ rfl
  have bp_1 := BP.out 1 _ rfl
  go_wp2_with fail
  refine (k_find1 _ _ _ _ _ GC.out GD.out I8.out I9.out).mono ?_
  rintro e w2 ⟨qa, qn, qc, qb, qm, qd, z2, rfl, hx2⟩
  clear bc_0 bc_1 bc_2 bc_3 bc_4 bd_0 bd_1 bd_2 bd_3 bd_4 bp_0 bp_1
  replace GC := hid_ (GC.out.ex hx2)
  replace GD := hid_ (GD.out.ex hx2)
  replace I8 := hid_ (I8.out.ex hx2)
  replace I9 := hid_ (I9.out.ex hx2)
  replace BT := hid_ (BT.out.ex hx2)
  replace BC := hid_ (BC.out.ex hx2)
  replace BD := hid_ (BD.out.ex hx2)
  replace BP := hid_ (BP.out.ex hx2)
  replace M1 := hid_ (M1.out.ex hx2)
  replace M2 := hid_ (M2.out.ex hx2)
  replace BM := hid_ (BM.out.ex hx2)
  replace EX := hid_ (EX.out.trans hx2)
  clear hx2
  have ex2 := e_al w2 (.cells #[.slice qa qn qc, .slice qb qm qd, .int .i64 z2] 26)
  replace GC := hid_ (GC.out.ex ex2)
  replace GD := hid_ (GD.out.ex ex2)
  replace I8 := hid_ (I8.out.ex ex2)
  replace I9 := hid_ (I9.out.ex ex2)
  replace BT := hid_ (BT.out.ex ex2)
  replace BC := hid_ (BC.out.ex ex2)
  replace BD := hid_ (BD.out.ex ex2)
  replace BP := hid_ (BP.out.ex ex2)
  replace M1 := hid_ (M1.out.ex ex2)
  replace M2 := hid_ (M2.out.ex ex2)
  replace BM := hid_ (BM.out.ex ex2)
  replace EX := hid_ (EX.out.trans ex2)
  have BX := hid_ (boxAt_new w2 [.slice qa qn qc, .slice qb qm qd, .int .i64 z2] _ 26 rfl)
  clear ex2
  go_upto_region 8 with fail
  obtain ⟨B12, hB12⟩ : ∃ B, w2.heap.size = B := ⟨_, rfl⟩
  rw [hB12] at BX
  try simp only [hB12]
  clear hB12
  generalize w2.alloc (.cells #[.slice qa qn qc, .slice qb qm qd, .int .i64 z2] 26) = v2 at *
  have bc_0 := BC.out 0 _ rfl
  have bc_1 := BC.out 1 _ rfl
  have bc_2 := BC.out 2 _ rfl
  have bc_3 := BC.out 3 _ rfl
  have bc_4 := BC.out 4 _ rfl
  have bd_0 := BD.out 0 _ rfl
  have bd_1 := BD.out 1 _ rfl
  have bd_2 := BD.out 2 _ rfl
  have bd_3 := BD.out 3 _ rfl
  have bd_4 := BD.out 4 _ rfl
  have bp_0 := BP.out 0 _ rfl
  have bp_1 := BP.out 1 _ rfl
  go_wp2_with fail
  clear BX
  refine (k_ref _ _ _ _ _ GC.out GD.out I8.out I9.out).mono ?_
  rintro e w3 ⟨ra, rc, rfl, hr, hx3⟩
  clear bc_0 bc_1 bc_2 bc_3 bc_4 bd_0 bd_1 bd_2 bd_3 bd_4 bp_0 bp_1
  replace GC := hid_ (GC.out.ex hx3)
  replace GD := hid_ (GD.out.ex hx3)
  replace I8 := hid_ (I8.out.ex hx3)
  replace I9 := hid_ (I9.out.ex hx3)
  replace BT := hid_ (BT.out.ex hx3)
  replace BC := hid_ (BC.out.ex hx3)
  replace BD := hid_ (BD.out.ex hx3)
  replace BP := hid_ (BP.out.ex hx3)
  replace M1 := hid_ (M1.out.ex hx3)
  replace M2 := hid_ (M2.out.ex hx3)
  replace BM := hid_ (BM.out.ex hx3)
  replace EX := hid_ (EX.out.trans hx3)
  have R1 := hid_ hr
  clear hx3 hr
  have ex3 := e_al w3 (.cells #[.slice ra 1 rc] 54)
  replace GC := hid_ (GC.out.ex ex3)
  replace GD := hid_ (GD.out.ex ex3)
  replace I8 := hid_ (I8.out.ex ex3)
  replace I9 := hid_ (I9.out.ex ex3)
  replace BT := hid_ (BT.out.ex ex3)
  replace BC := hid_ (BC.out.ex ex3)
  replace BD := hid_ (BD.out.ex ex3)
  replace BP := hid_ (BP.out.ex ex3)
  replace M1 := hid_ (M1.out.ex ex3)
  replace M2 := hid_ (M2.out.ex ex3)
  replace BM := hid_ (BM.out.ex ex3)
  replace R1 := hid_ (R1.out.ex ex3)
  replace EX := hid_ (EX.out.trans ex3)
  have BR := hid_ (boxAt_new w3 [.slice ra 1 rc] _ 54 rfl)
  clear ex3
  go_upto_region 9 with fail
  obtain ⟨B13, hB13⟩ : ∃ B, w3.heap.size = B := ⟨_, rfl⟩
  rw [hB13] at BR
  try simp only [hB13]
  clear hB13
  generalize w3.alloc (.cells #[.slice ra 1 rc] 54) = v3 at *
  have bc_0 := BC.out 0 _ rfl
  have bc_1 := BC.out 1 _ rfl
  have bc_2 := BC.out 2 _ rfl
  have bc_3 := BC.out 3 _ rfl
  have bc_4 := BC.out 4 _ rfl
  have bd_0 := BD.out 0 _ rfl
  have bd_1 := BD.out 1 _ rfl
  have bd_2 := BD.out 2 _ rfl
  have bd_3 := BD.out 3 _ rfl
  have bd_4 := BD.out 4 _ rfl
  go_wp2_with fail
  refine (k_ref1 _ _ _ GC.out GD.out).mono ?_
  rintro e w4 ⟨ua, un, uc, rfl, hx4⟩
  clear bc_0 bc_1 bc_2 bc_3 bc_4 bd_0 bd_1 bd_2 bd_3 bd_4
  replace GC := hid_ (GC.out.ex hx4)
  replace GD := hid_ (GD.out.ex hx4)
  replace I8 := hid_ (I8.out.ex hx4)
  replace I9 := hid_ (I9.out.ex hx4)
  replace BT := hid_ (BT.out.ex hx4)
  replace BC := hid_ (BC.out.ex hx4)
  replace BD := hid_ (BD.out.ex hx4)
  replace BP := hid_ (BP.out.ex hx4)
  replace M1 := hid_ (M1.out.ex hx4)
  replace M2 := hid_ (M2.out.ex hx4)
  replace BM := hid_ (BM.out.ex hx4)
  replace R1 := hid_ (R1.out.ex hx4)
  replace BR := hid_ (BR.out.ex hx4)
  replace EX := hid_ (EX.out.trans hx4)
  clear hx4
  have ex4 := e_al w4 (.cells #[.slice ua un uc] 54)
  replace GC := hid_ (GC.out.ex ex4)
  replace GD := hid_ (GD.out.ex ex4)
  replace I8 := hid_ (I8.out.ex ex4)
  replace I9 := hid_ (I9.out.ex ex4)
  replace BT := hid_ (BT.out.ex ex4)
  replace BC := hid_ (BC.out.ex ex4)
  replace BD := hid_ (BD.out.ex ex4)
  replace BP := hid_ (BP.out.ex ex4)
  replace M1 := hid_ (M1.out.ex ex4)
  replace M2 := hid_ (M2.out.ex ex4)
  replace BM := hid_ (BM.out.ex ex4)
  replace R1 := hid_ (R1.out.ex ex4)
  replace BR := hid_ (BR.out.ex ex4)
  replace EX := hid_ (EX.out.trans ex4)
  have BY := hid_ (boxAt_new w4 [.slice ua un uc] _ 54 rfl)
  clear ex4
  go_upto_region 10 with fail
  obtain ⟨B14, hB14⟩ : ∃ B, w4.heap.size = B := ⟨_, rfl⟩
  rw [hB14] at BY
  try simp only [hB14]
  clear hB14
  generalize w4.alloc (.cells #[.slice ua un uc] 54) = v4 at *
  clear BY
  have i5a := isl_lit v4 [1, 0] _ 3 rfl rfl rfl (by decide)
  have q5a : (v4.alloc (.cells #[.int .i64 1, .int .i64 0] 3)).heap.size = v4.heap.size + 1 := by simp
  have i5b := isl_lit (v4.alloc (.cells #[.int .i64 1, .int .i64 0] 3)) [2, 1] _ 3 rfl q5a rfl (by decide)
  have q5b : ((v4.alloc (.cells #[.int .i64 1, .int .i64 0] 3)).alloc (.cells #[.int .i64 2, .int .i64 1] 3)).heap.size = v4.heap.size + 1 + 1 := by simp
  have i5c := boxAt_new ((v4.alloc (.cells #[.int .i64 1, .int .i64 0] 3)).alloc (.cells #[.int .i64 2, .int .i64 1] 3)) [.slice (some ⟨v4.heap.size, 0, none⟩) 2 2, .slice (some ⟨v4.heap.size + 1, 0, none⟩) 2 2, .int .i64 0] _ 26 rfl
  rw [q5b] at i5c
  have ex5 := ((e_al v4 (.cells #[.int .i64 1, .int .i64 0] 3)).trans (e_al _ (.cells #[.int .i64 2, .int .i64 1] 3))).trans (e_al ((v4.alloc (.cells #[.int .i64 1, .int .i64 0] 3)).alloc (.cells #[.int .i64 2, .int .i64 1] 3)) (.cells #[.slice (some ⟨v4.heap.size, 0, none⟩) 2 2, .slice (some ⟨v4.heap.size + 1, 0, none⟩) 2 2, .int .i64 0] 26))
  have X1 := hid_ (i5a.ex ((e_al _ (.cells #[.int .i64 2, .int .i64 1] 3)).trans (e_al ((v4.alloc (.cells #[.int .i64 1, .int .i64 0] 3)).alloc (.cells #[.int .i64 2, .int .i64 1] 3)) (.cells #[.slice (some ⟨v4.heap.size, 0, none⟩) 2 2, .slice (some ⟨v4.heap.size + 1, 0, none⟩) 2 2, .int .i64 0] 26))))
  have X2 := hid_ (i5b.ex (e_al ((v4.alloc (.cells #[.int .i64 1, .int .i64 0] 3)).alloc (.cells #[.int .i64 2, .int .i64 1] 3)) (.cells #[.slice (some ⟨v4.heap.size, 0, none⟩) 2 2, .slice (some ⟨v4.heap.size + 1, 0, none⟩) 2 2, .int .i64 0] 26)))
  have XB := hid_ i5c
  replace GC := hid_ (GC.out.ex ex5)
  replace GD := hid_ (GD.out.ex ex5)
  replace I8 := hid_ (I8.out.ex ex5)
  replace I9 := hid_ (I9.out.ex ex5)
  replace BT := hid_ (BT.out.ex ex5)
  replace BC := hid_ (BC.out.ex ex5)
  replace BD := hid_ (BD.out.ex ex5)
  replace BP := hid_ (BP.out.ex ex5)
  replace M1 := hid_ (M1.out.ex ex5)
  replace M2 := hid_ (M2.out.ex ex5)
  replace BM := hid_ (BM.out.ex ex5)
  replace R1 := hid_ (R1.out.ex ex5)
  replace BR := hid_ (BR.out.ex ex5)
  replace EX := hid_ (EX.out.trans ex5)
  clear ex5 i5a i5b i5c q5a q5b
  go_upto_region 11 with fail
  generalize ((v4.alloc (.cells #[.int .i64 1, .int .i64 0] 3)).alloc (.cells #[.int .i64 2, .int .i64 1] 3)).alloc (.cells #[.slice (some ⟨v4.heap.size, 0, none⟩) 2 2, .slice (some ⟨v4.heap.size + 1, 0, none⟩) 2 2, .int .i64 0] 26) = v5 at *
  obtain ⟨B16, hB16⟩ : ∃ B, v4.heap.size = B := ⟨_, rfl⟩
  rw [hB16] at X1 X2 XB
  try simp only [hB16]
  clear hB16
  obtain ⟨B17, hB17⟩ : ∃ B, B16 + 1 = B := ⟨_, rfl⟩
  rw [hB17] at X2 XB
  try simp only [hB17]
  clear hB17
  obtain ⟨B18, hB18⟩ : ∃ B, B17 + 1 = B := ⟨_, rfl⟩
  rw [hB18] at XB
  try simp only [hB18]
  clear hB18
  have bt_0 := BT.out 0 _ rfl
  have bt_1 := BT.out 1 _ rfl
  have bt_2 := BT.out 2 _ rfl
  have xb_0 := XB.out 0 _ rfl
  have xb_1 := XB.out 1 _ rfl
  have xb_2 := XB.out 2 _ rfl
  go_wp2_with fail
  refine (k_wrd _ _ _ _ (X1.out.ex (e_al _ _)) (X2.out.ex (e_al _ _)) (isl_lit _ [1, 2] _ _ rfl rfl rfl (by decide))).mono ?_
  rintro e w5 ⟨wa, wc, rfl, hw, hx5⟩
  replace hx5 := (e_al _ _).trans hx5
  clear bt_0 bt_1 bt_2 xb_0 xb_1 xb_2
  replace GC := hid_ (GC.out.ex hx5)
  replace GD := hid_ (GD.out.ex hx5)
  replace I8 := hid_ (I8.out.ex hx5)
  replace I9 := hid_ (I9.out.ex hx5)
  replace BT := hid_ (BT.out.ex hx5)
  replace BC := hid_ (BC.out.ex hx5)
  replace BD := hid_ (BD.out.ex hx5)
  replace BP := hid_ (BP.out.ex hx5)
  replace M1 := hid_ (M1.out.ex hx5)
  replace M2 := hid_ (M2.out.ex hx5)
  replace BM := hid_ (BM.out.ex hx5)
  replace R1 := hid_ (R1.out.ex hx5)
  replace BR := hid_ (BR.out.ex hx5)
  replace X1 := hid_ (X1.out.ex hx5)
  replace X2 := hid_ (X2.out.ex hx5)
  replace XB := hid_ (XB.out.ex hx5)
  replace EX := hid_ (EX.out.trans hx5)
  have WD := hid_ hw
  clear hx5 hw
  have bt_0 := BT.out 0 _ rfl
  have bt_1 := BT.out 1 _ rfl
  have bt_2 := BT.out 2 _ rfl
  have xb_0 := XB.out 0 _ rfl
  have xb_1 := XB.out 1 _ rfl
  have xb_2 := XB.out 2 _ rfl
  go_wp2_with fail
  refine (k_inv _ _ _ X1.out X2.out).mono ?_
  rintro e w6 ⟨ya, yc, za, zc, rfl, hy, hz, hx6⟩
  clear bt_0 bt_1 bt_2 xb_0 xb_1 xb_2
  replace GC := hid_ (GC.out.ex hx6)
  replace GD := hid_ (GD.out.ex hx6)
  replace I8 := hid_ (I8.out.ex hx6)
  replace I9 := hid_ (I9.out.ex hx6)
  replace BT := hid_ (BT.out.ex hx6)
  replace BC := hid_ (BC.out.ex hx6)
  replace BD := hid_ (BD.out.ex hx6)
  replace BP := hid_ (BP.out.ex hx6)
  replace M1 := hid_ (M1.out.ex hx6)
  replace M2 := hid_ (M2.out.ex hx6)
  replace BM := hid_ (BM.out.ex hx6)
  replace R1 := hid_ (R1.out.ex hx6)
  replace BR := hid_ (BR.out.ex hx6)
  replace X1 := hid_ (X1.out.ex hx6)
  replace X2 := hid_ (X2.out.ex hx6)
  replace XB := hid_ (XB.out.ex hx6)
  replace WD := hid_ (WD.out.ex hx6)
  replace EX := hid_ (EX.out.trans hx6)
  have Y1 := hid_ hy
  have Y2 := hid_ hz
  clear hx6 hy hz
  have ex6 := e_al w6 (.cells #[.slice ya 2 yc, .slice za 2 zc, .int .i64 0] 26)
  replace GC := hid_ (GC.out.ex ex6)
  replace GD := hid_ (GD.out.ex ex6)
  replace I8 := hid_ (I8.out.ex ex6)
  replace I9 := hid_ (I9.out.ex ex6)
  replace BT := hid_ (BT.out.ex ex6)
  replace BC := hid_ (BC.out.ex ex6)
  replace BD := hid_ (BD.out.ex ex6)
  replace BP := hid_ (BP.out.ex ex6)
  replace M1 := hid_ (M1.out.ex ex6)
  replace M2 := hid_ (M2.out.ex ex6)
  replace BM := hid_ (BM.out.ex ex6)
  replace R1 := hid_ (R1.out.ex ex6)
  replace BR := hid_ (BR.out.ex ex6)
  replace X1 := hid_ (X1.out.ex ex6)
  replace X2 := hid_ (X2.out.ex ex6)
  replace XB := hid_ (XB.out.ex ex6)
  replace WD := hid_ (WD.out.ex ex6)
  replace Y1 := hid_ (Y1.out.ex ex6)
  replace Y2 := hid_ (Y2.out.ex ex6)
  replace EX := hid_ (EX.out.trans ex6)
  have BYY := hid_ (boxAt_new w6 [.slice ya 2 yc, .slice za 2 zc, .int .i64 0] _ 26 rfl)
  clear ex6
  go_upto_region 13 with fail
  obtain ⟨B19, hB19⟩ : ∃ B, w6.heap.size = B := ⟨_, rfl⟩
  rw [hB19] at BYY
  try simp only [hB19]
  clear hB19
  generalize w6.alloc (.cells #[.slice ya 2 yc, .slice za 2 zc, .int .i64 0] 26) = v6 at *
  have bt_0 := BT.out 0 _ rfl
  have bt_1 := BT.out 1 _ rfl
  have bt_2 := BT.out 2 _ rfl
  have xb_0 := XB.out 0 _ rfl
  have xb_1 := XB.out 1 _ rfl
  have xb_2 := XB.out 2 _ rfl
  have byy_0 := BYY.out 0 _ rfl
  have byy_1 := BYY.out 1 _ rfl
  have byy_2 := BYY.out 2 _ rfl
  go_wp2_with fail
  refine (k_cmp _ _ _ _ _ X1.out X2.out Y1.out Y2.out).mono ?_
  rintro e w7 ⟨oa, oc, pa, pc, rfl, ho, hp, hx7⟩
  clear bt_0 bt_1 bt_2 xb_0 xb_1 xb_2 byy_0 byy_1 byy_2
  replace GC := hid_ (GC.out.ex hx7)
  replace GD := hid_ (GD.out.ex hx7)
  replace I8 := hid_ (I8.out.ex hx7)
  replace I9 := hid_ (I9.out.ex hx7)
  replace BT := hid_ (BT.out.ex hx7)
  replace BC := hid_ (BC.out.ex hx7)
  replace BD := hid_ (BD.out.ex hx7)
  replace BP := hid_ (BP.out.ex hx7)
  replace M1 := hid_ (M1.out.ex hx7)
  replace M2 := hid_ (M2.out.ex hx7)
  replace BM := hid_ (BM.out.ex hx7)
  replace R1 := hid_ (R1.out.ex hx7)
  replace BR := hid_ (BR.out.ex hx7)
  replace X1 := hid_ (X1.out.ex hx7)
  replace X2 := hid_ (X2.out.ex hx7)
  replace XB := hid_ (XB.out.ex hx7)
  replace WD := hid_ (WD.out.ex hx7)
  replace Y1 := hid_ (Y1.out.ex hx7)
  replace Y2 := hid_ (Y2.out.ex hx7)
  replace BYY := hid_ (BYY.out.ex hx7)
  replace EX := hid_ (EX.out.trans hx7)
  have Z1 := hid_ ho
  have Z2 := hid_ hp
  clear hx7 ho hp
  have ex7 := e_al w7 (.cells #[.slice oa 2 oc, .slice pa 2 pc, .int .i64 0] 26)
  replace GC := hid_ (GC.out.ex ex7)
  replace GD := hid_ (GD.out.ex ex7)
  replace I8 := hid_ (I8.out.ex ex7)
  replace I9 := hid_ (I9.out.ex ex7)
  replace BT := hid_ (BT.out.ex ex7)
  replace BC := hid_ (BC.out.ex ex7)
  replace BD := hid_ (BD.out.ex ex7)
  replace BP := hid_ (BP.out.ex ex7)
  replace M1 := hid_ (M1.out.ex ex7)
  replace M2 := hid_ (M2.out.ex ex7)
  replace BM := hid_ (BM.out.ex ex7)
  replace R1 := hid_ (R1.out.ex ex7)
  replace BR := hid_ (BR.out.ex ex7)
  replace X1 := hid_ (X1.out.ex ex7)
  replace X2 := hid_ (X2.out.ex ex7)
  replace XB := hid_ (XB.out.ex ex7)
  replace WD := hid_ (WD.out.ex ex7)
  replace Y1 := hid_ (Y1.out.ex ex7)
  replace Y2 := hid_ (Y2.out.ex ex7)
  replace BYY := hid_ (BYY.out.ex ex7)
  replace Z1 := hid_ (Z1.out.ex ex7)
  replace Z2 := hid_ (Z2.out.ex ex7)
  replace EX := hid_ (EX.out.trans ex7)
  have BZ := hid_ (boxAt_new w7 [.slice oa 2 oc, .slice pa 2 pc, .int .i64 0] _ 26 rfl)
  clear ex7
  go_upto_region 14 with fail
  obtain ⟨B20, hB20⟩ : ∃ B, w7.heap.size = B := ⟨_, rfl⟩
  rw [hB20] at BZ
  try simp only [hB20]
  clear hB20
  generalize w7.alloc (.cells #[.slice oa 2 oc, .slice pa 2 pc, .int .i64 0] 26) = v7 at *
  have bc_0 := BC.out 0 _ rfl
  have bc_1 := BC.out 1 _ rfl
  have bc_2 := BC.out 2 _ rfl
  have bc_3 := BC.out 3 _ rfl
  have bc_4 := BC.out 4 _ rfl
  have bm_0 := BM.out 0 _ rfl
  have bm_1 := BM.out 1 _ rfl
  have bm_2 := BM.out 2 _ rfl
  go_wp2_with fail
  refine (k_app _ _ _ _ GC.out M1.out M2.out).mono ?_
  rintro e w8 ⟨la, lc, ga, gc, rfl, hl, hg, hx8⟩
  clear bc_0 bc_1 bc_2 bc_3 bc_4 bm_0 bm_1 bm_2
  replace GC := hid_ (GC.out.ex hx8)
  replace GD := hid_ (GD.out.ex hx8)
  replace I8 := hid_ (I8.out.ex hx8)
  replace I9 := hid_ (I9.out.ex hx8)
  replace BT := hid_ (BT.out.ex hx8)
  replace BC := hid_ (BC.out.ex hx8)
  replace BD := hid_ (BD.out.ex hx8)
  replace BP := hid_ (BP.out.ex hx8)
  replace M1 := hid_ (M1.out.ex hx8)
  replace M2 := hid_ (M2.out.ex hx8)
  replace BM := hid_ (BM.out.ex hx8)
  replace R1 := hid_ (R1.out.ex hx8)
  replace BR := hid_ (BR.out.ex hx8)
  replace X1 := hid_ (X1.out.ex hx8)
  replace X2 := hid_ (X2.out.ex hx8)
  replace XB := hid_ (XB.out.ex hx8)
  replace WD := hid_ (WD.out.ex hx8)
  replace Y1 := hid_ (Y1.out.ex hx8)
  replace Y2 := hid_ (Y2.out.ex hx8)
  replace BYY := hid_ (BYY.out.ex hx8)
  replace Z1 := hid_ (Z1.out.ex hx8)
  replace Z2 := hid_ (Z2.out.ex hx8)
  replace BZ := hid_ (BZ.out.ex hx8)
  replace EX := hid_ (EX.out.trans hx8)
  have A1 := hid_ hl
  have A2 := hid_ hg
  clear hx8 hl hg
  have ex8 := e_al w8 (.cells #[.int .i64 2, .int .i64 1, .slice la 0 lc, .int .i64 3, .slice ga 1 gc] 47)
  replace GC := hid_ (GC.out.ex ex8)
  replace GD := hid_ (GD.out.ex ex8)
  replace I8 := hid_ (I8.out.ex ex8)
  replace I9 := hid_ (I9.out.ex ex8)
  replace BT := hid_ (BT.out.ex ex8)
  replace BC := hid_ (BC.out.ex ex8)
  replace BD := hid_ (BD.out.ex ex8)
  replace BP := hid_ (BP.out.ex ex8)
  replace M1 := hid_ (M1.out.ex ex8)
  replace M2 := hid_ (M2.out.ex ex8)
  replace BM := hid_ (BM.out.ex ex8)
  replace R1 := hid_ (R1.out.ex ex8)
  replace BR := hid_ (BR.out.ex ex8)
  replace X1 := hid_ (X1.out.ex ex8)
  replace X2 := hid_ (X2.out.ex ex8)
  replace XB := hid_ (XB.out.ex ex8)
  replace WD := hid_ (WD.out.ex ex8)
  replace Y1 := hid_ (Y1.out.ex ex8)
  replace Y2 := hid_ (Y2.out.ex ex8)
  replace BYY := hid_ (BYY.out.ex ex8)
  replace Z1 := hid_ (Z1.out.ex ex8)
  replace Z2 := hid_ (Z2.out.ex ex8)
  replace BZ := hid_ (BZ.out.ex ex8)
  replace A1 := hid_ (A1.out.ex ex8)
  replace A2 := hid_ (A2.out.ex ex8)
  replace EX := hid_ (EX.out.trans ex8)
  have BA := hid_ (boxAt_new w8 [.int .i64 2, .int .i64 1, .slice la 0 lc, .int .i64 3, .slice ga 1 gc] _ 47 rfl)
  clear ex8
  go_upto_region 15 with fail
  obtain ⟨B21, hB21⟩ : ∃ B, w8.heap.size = B := ⟨_, rfl⟩
  rw [hB21] at BA
  try simp only [hB21]
  clear hB21
  generalize w8.alloc (.cells #[.int .i64 2, .int .i64 1, .slice la 0 lc, .int .i64 3, .slice ga 1 gc] 47) = v8 at *
  have bm_0 := BM.out 0 _ rfl
  have bm_1 := BM.out 1 _ rfl
  have bm_2 := BM.out 2 _ rfl
  go_wp2_with fail
  refine (k_map _ [1, 2, 0] [1, 1, 1] _ _ _ _ (M1.out.ex ((e_al _ _).trans (e_al _ _))) (M2.out.ex ((e_al _ _).trans (e_al _ _))) ((isl_lit _ [1, 2, 0] _ _ rfl rfl rfl (by decide)).ex (e_al _ _)) (isl_lit _ [1, 1, 1] _ _ rfl (by simp) rfl (by decide))).mono ?_
  rintro e w9 ⟨rfl, hx9⟩
  replace hx9 := ((e_al _ _).trans (e_al _ _)).trans hx9
  clear bm_0 bm_1 bm_2
  replace GC := hid_ (GC.out.ex hx9)
  replace GD := hid_ (GD.out.ex hx9)
  replace I8 := hid_ (I8.out.ex hx9)
  replace I9 := hid_ (I9.out.ex hx9)
  replace BT := hid_ (BT.out.ex hx9)
  replace BC := hid_ (BC.out.ex hx9)
  replace BD := hid_ (BD.out.ex hx9)
  replace BP := hid_ (BP.out.ex hx9)
  replace M1 := hid_ (M1.out.ex hx9)
  replace M2 := hid_ (M2.out.ex hx9)
  replace BM := hid_ (BM.out.ex hx9)
  replace R1 := hid_ (R1.out.ex hx9)
  replace BR := hid_ (BR.out.ex hx9)
  replace X1 := hid_ (X1.out.ex hx9)
  replace X2 := hid_ (X2.out.ex hx9)
  replace XB := hid_ (XB.out.ex hx9)
  replace WD := hid_ (WD.out.ex hx9)
  replace Y1 := hid_ (Y1.out.ex hx9)
  replace Y2 := hid_ (Y2.out.ex hx9)
  replace BYY := hid_ (BYY.out.ex hx9)
  replace Z1 := hid_ (Z1.out.ex hx9)
  replace Z2 := hid_ (Z2.out.ex hx9)
  replace BZ := hid_ (BZ.out.ex hx9)
  replace A1 := hid_ (A1.out.ex hx9)
  replace A2 := hid_ (A2.out.ex hx9)
  replace BA := hid_ (BA.out.ex hx9)
  replace EX := hid_ (EX.out.trans hx9)
  clear hx9
  have br_0 := BR.out 0 _ rfl
  go_wp2_with fail
  refine (k_same _ _ _ [⟨0, 0, 0, [1]⟩] (R1.out.ex ((e_al _ _).trans (e_al _ _))) (rsl_lit1 _ ⟨0, 0, 0, [1]⟩ _ _ (isl_lit _ [1] _ _ rfl rfl rfl (by decide)) (by simp))).mono ?_
  rintro e w10 ⟨rfl, hx10⟩
  replace hx10 := ((e_al _ _).trans (e_al _ _)).trans hx10
  clear br_0
  replace GC := hid_ (GC.out.ex hx10)
  replace GD := hid_ (GD.out.ex hx10)
  replace I8 := hid_ (I8.out.ex hx10)
  replace I9 := hid_ (I9.out.ex hx10)
  replace BT := hid_ (BT.out.ex hx10)
  replace BC := hid_ (BC.out.ex hx10)
  replace BD := hid_ (BD.out.ex hx10)
  replace BP := hid_ (BP.out.ex hx10)
  replace M1 := hid_ (M1.out.ex hx10)
  replace M2 := hid_ (M2.out.ex hx10)
  replace BM := hid_ (BM.out.ex hx10)
  replace R1 := hid_ (R1.out.ex hx10)
  replace BR := hid_ (BR.out.ex hx10)
  replace X1 := hid_ (X1.out.ex hx10)
  replace X2 := hid_ (X2.out.ex hx10)
  replace XB := hid_ (XB.out.ex hx10)
  replace WD := hid_ (WD.out.ex hx10)
  replace Y1 := hid_ (Y1.out.ex hx10)
  replace Y2 := hid_ (Y2.out.ex hx10)
  replace BYY := hid_ (BYY.out.ex hx10)
  replace Z1 := hid_ (Z1.out.ex hx10)
  replace Z2 := hid_ (Z2.out.ex hx10)
  replace BZ := hid_ (BZ.out.ex hx10)
  replace A1 := hid_ (A1.out.ex hx10)
  replace A2 := hid_ (A2.out.ex hx10)
  replace BA := hid_ (BA.out.ex hx10)
  replace EX := hid_ (EX.out.trans hx10)
  clear hx10
  go_wp2_with fail
  refine (k_ints _ _ _ [2, 2] (WD.out.ex (e_al _ _)) (isl_lit _ [2, 2] _ _ rfl rfl rfl (by decide))).mono ?_
  rintro e w11 ⟨rfl, hx11⟩
  replace hx11 := (e_al _ _).trans hx11
  replace GC := hid_ (GC.out.ex hx11)
  replace GD := hid_ (GD.out.ex hx11)
  replace I8 := hid_ (I8.out.ex hx11)
  replace I9 := hid_ (I9.out.ex hx11)
  replace BT := hid_ (BT.out.ex hx11)
  replace BC := hid_ (BC.out.ex hx11)
  replace BD := hid_ (BD.out.ex hx11)
  replace BP := hid_ (BP.out.ex hx11)
  replace M1 := hid_ (M1.out.ex hx11)
  replace M2 := hid_ (M2.out.ex hx11)
  replace BM := hid_ (BM.out.ex hx11)
  replace R1 := hid_ (R1.out.ex hx11)
  replace BR := hid_ (BR.out.ex hx11)
  replace X1 := hid_ (X1.out.ex hx11)
  replace X2 := hid_ (X2.out.ex hx11)
  replace XB := hid_ (XB.out.ex hx11)
  replace WD := hid_ (WD.out.ex hx11)
  replace Y1 := hid_ (Y1.out.ex hx11)
  replace Y2 := hid_ (Y2.out.ex hx11)
  replace BYY := hid_ (BYY.out.ex hx11)
  replace Z1 := hid_ (Z1.out.ex hx11)
  replace Z2 := hid_ (Z2.out.ex hx11)
  replace BZ := hid_ (BZ.out.ex hx11)
  replace A1 := hid_ (A1.out.ex hx11)
  replace A2 := hid_ (A2.out.ex hx11)
  replace BA := hid_ (BA.out.ex hx11)
  replace EX := hid_ (EX.out.trans hx11)
  clear hx11
  have ba_0 := BA.out 0 _ rfl
  have ba_1 := BA.out 1 _ rfl
  have ba_2 := BA.out 2 _ rfl
  have ba_3 := BA.out 3 _ rfl
  have ba_4 := BA.out 4 _ rfl
  have bd_0 := BD.out 0 _ rfl
  have bd_1 := BD.out 1 _ rfl
  have bd_2 := BD.out 2 _ rfl
  have bd_3 := BD.out 3 _ rfl
  have bd_4 := BD.out 4 _ rfl
  go_wp2_with fail
  refine (k_code _ _ _ _ _ A1.out (isl_nil _) A2.out GD.out).mono ?_
  rintro e w12 ⟨rfl, hx12⟩
  clear ba_0 ba_1 ba_2 ba_3 ba_4 bd_0 bd_1 bd_2 bd_3 bd_4
  replace GC := hid_ (GC.out.ex hx12)
  replace GD := hid_ (GD.out.ex hx12)
  replace I8 := hid_ (I8.out.ex hx12)
  replace I9 := hid_ (I9.out.ex hx12)
  replace BT := hid_ (BT.out.ex hx12)
  replace BC := hid_ (BC.out.ex hx12)
  replace BD := hid_ (BD.out.ex hx12)
  replace BP := hid_ (BP.out.ex hx12)
  replace M1 := hid_ (M1.out.ex hx12)
  replace M2 := hid_ (M2.out.ex hx12)
  replace BM := hid_ (BM.out.ex hx12)
  replace R1 := hid_ (R1.out.ex hx12)
  replace BR := hid_ (BR.out.ex hx12)
  replace X1 := hid_ (X1.out.ex hx12)
  replace X2 := hid_ (X2.out.ex hx12)
  replace XB := hid_ (XB.out.ex hx12)
  replace WD := hid_ (WD.out.ex hx12)
  replace Y1 := hid_ (Y1.out.ex hx12)
  replace Y2 := hid_ (Y2.out.ex hx12)
  replace BYY := hid_ (BYY.out.ex hx12)
  replace Z1 := hid_ (Z1.out.ex hx12)
  replace Z2 := hid_ (Z2.out.ex hx12)
  replace BZ := hid_ (BZ.out.ex hx12)
  replace A1 := hid_ (A1.out.ex hx12)
  replace A2 := hid_ (A2.out.ex hx12)
  replace BA := hid_ (BA.out.ex hx12)
  replace EX := hid_ (EX.out.trans hx12)
  clear hx12
  have byy_0 := BYY.out 0 _ rfl
  have byy_1 := BYY.out 1 _ rfl
  have byy_2 := BYY.out 2 _ rfl
  go_wp2_with fail
  refine (k_map _ [1, 0] [1, 2] _ _ _ _ (Y1.out.ex ((e_al _ _).trans (e_al _ _))) (Y2.out.ex ((e_al _ _).trans (e_al _ _))) ((isl_lit _ [1, 0] _ _ rfl rfl rfl (by decide)).ex (e_al _ _)) (isl_lit _ [1, 2] _ _ rfl (by simp) rfl (by decide))).mono ?_
  rintro e w13 ⟨rfl, hx13⟩
  replace hx13 := ((e_al _ _).trans (e_al _ _)).trans hx13
  clear byy_0 byy_1 byy_2
  replace GC := hid_ (GC.out.ex hx13)
  replace GD := hid_ (GD.out.ex hx13)
  replace I8 := hid_ (I8.out.ex hx13)
  replace I9 := hid_ (I9.out.ex hx13)
  replace BT := hid_ (BT.out.ex hx13)
  replace BC := hid_ (BC.out.ex hx13)
  replace BD := hid_ (BD.out.ex hx13)
  replace BP := hid_ (BP.out.ex hx13)
  replace M1 := hid_ (M1.out.ex hx13)
  replace M2 := hid_ (M2.out.ex hx13)
  replace BM := hid_ (BM.out.ex hx13)
  replace R1 := hid_ (R1.out.ex hx13)
  replace BR := hid_ (BR.out.ex hx13)
  replace X1 := hid_ (X1.out.ex hx13)
  replace X2 := hid_ (X2.out.ex hx13)
  replace XB := hid_ (XB.out.ex hx13)
  replace WD := hid_ (WD.out.ex hx13)
  replace Y1 := hid_ (Y1.out.ex hx13)
  replace Y2 := hid_ (Y2.out.ex hx13)
  replace BYY := hid_ (BYY.out.ex hx13)
  replace Z1 := hid_ (Z1.out.ex hx13)
  replace Z2 := hid_ (Z2.out.ex hx13)
  replace BZ := hid_ (BZ.out.ex hx13)
  replace A1 := hid_ (A1.out.ex hx13)
  replace A2 := hid_ (A2.out.ex hx13)
  replace BA := hid_ (BA.out.ex hx13)
  replace EX := hid_ (EX.out.trans hx13)
  clear hx13
  have bz_0 := BZ.out 0 _ rfl
  have bz_1 := BZ.out 1 _ rfl
  have bz_2 := BZ.out 2 _ rfl
  go_wp2_with fail
  refine (k_map _ [0, 1] [1, 1] _ _ _ _ (Z1.out.ex ((e_al _ _).trans (e_al _ _))) (Z2.out.ex ((e_al _ _).trans (e_al _ _))) ((isl_lit _ [0, 1] _ _ rfl rfl rfl (by decide)).ex (e_al _ _)) (isl_lit _ [1, 1] _ _ rfl (by simp) rfl (by decide))).mono ?_
  rintro e w14 ⟨rfl, hx14⟩
  replace hx14 := ((e_al _ _).trans (e_al _ _)).trans hx14
  clear bz_0 bz_1 bz_2
  replace GC := hid_ (GC.out.ex hx14)
  replace GD := hid_ (GD.out.ex hx14)
  replace I8 := hid_ (I8.out.ex hx14)
  replace I9 := hid_ (I9.out.ex hx14)
  replace BT := hid_ (BT.out.ex hx14)
  replace BC := hid_ (BC.out.ex hx14)
  replace BD := hid_ (BD.out.ex hx14)
  replace BP := hid_ (BP.out.ex hx14)
  replace M1 := hid_ (M1.out.ex hx14)
  replace M2 := hid_ (M2.out.ex hx14)
  replace BM := hid_ (BM.out.ex hx14)
  replace R1 := hid_ (R1.out.ex hx14)
  replace BR := hid_ (BR.out.ex hx14)
  replace X1 := hid_ (X1.out.ex hx14)
  replace X2 := hid_ (X2.out.ex hx14)
  replace XB := hid_ (XB.out.ex hx14)
  replace WD := hid_ (WD.out.ex hx14)
  replace Y1 := hid_ (Y1.out.ex hx14)
  replace Y2 := hid_ (Y2.out.ex hx14)
  replace BYY := hid_ (BYY.out.ex hx14)
  replace Z1 := hid_ (Z1.out.ex hx14)
  replace Z2 := hid_ (Z2.out.ex hx14)
  replace BZ := hid_ (BZ.out.ex hx14)
  replace A1 := hid_ (A1.out.ex hx14)
  replace A2 := hid_ (A2.out.ex hx14)
  replace BA := hid_ (BA.out.ex hx14)
  replace EX := hid_ (EX.out.trans hx14)
  clear hx14
  have bt_0 := BT.out 0 _ rfl
  have bt_1 := BT.out 1 _ rfl
  have bt_2 := BT.out 2 _ rfl
  have xb_0 := XB.out 0 _ rfl
  have xb_1 := XB.out 1 _ rfl
  have xb_2 := XB.out 2 _ rfl
  go_wp2_with fail
  refine (k_mon _ _ _ X1.out X2.out).mono ?_
  rintro e w15 ⟨rfl, hx15⟩
  clear bt_0 bt_1 bt_2 xb_0 xb_1 xb_2
  replace GC := hid_ (GC.out.ex hx15)
  replace GD := hid_ (GD.out.ex hx15)
  replace I8 := hid_ (I8.out.ex hx15)
  replace I9 := hid_ (I9.out.ex hx15)
  replace BT := hid_ (BT.out.ex hx15)
  replace BC := hid_ (BC.out.ex hx15)
  replace BD := hid_ (BD.out.ex hx15)
  replace BP := hid_ (BP.out.ex hx15)
  replace M1 := hid_ (M1.out.ex hx15)
  replace M2 := hid_ (M2.out.ex hx15)
  replace BM := hid_ (BM.out.ex hx15)
  replace R1 := hid_ (R1.out.ex hx15)
  replace BR := hid_ (BR.out.ex hx15)
  replace X1 := hid_ (X1.out.ex hx15)
  replace X2 := hid_ (X2.out.ex hx15)
  replace XB := hid_ (XB.out.ex hx15)
  replace WD := hid_ (WD.out.ex hx15)
  replace Y1 := hid_ (Y1.out.ex hx15)
  replace Y2 := hid_ (Y2.out.ex hx15)
  replace BYY := hid_ (BYY.out.ex hx15)
  replace Z1 := hid_ (Z1.out.ex hx15)
  replace Z2 := hid_ (Z2.out.ex hx15)
  replace BZ := hid_ (BZ.out.ex hx15)
  replace A1 := hid_ (A1.out.ex hx15)
  replace A2 := hid_ (A2.out.ex hx15)
  replace BA := hid_ (BA.out.ex hx15)
  replace EX := hid_ (EX.out.trans hx15)
  clear hx15
  have bc_0 := BC.out 0 _ rfl
  have bc_1 := BC.out 1 _ rfl
  have bc_2 := BC.out 2 _ rfl
  have bc_3 := BC.out 3 _ rfl
  have bc_4 := BC.out 4 _ rfl
  have bd_0 := BD.out 0 _ rfl
  have bd_1 := BD.out 1 _ rfl
  have bd_2 := BD.out 2 _ rfl
  have bd_3 := BD.out 3 _ rfl
  have bd_4 := BD.out 4 _ rfl
  have bp_0 := BP.out 0 _ rfl
  have bp_1 := BP.out 1 _ rfl
  have br_0 := BR.out 0 _ rfl
  go_wp2_with fail
  refine (k_chk _ _ _ _ _ _ GC.out GD.out I8.out I9.out R1.out).mono ?_
  rintro e w16 ⟨rfl, hx16⟩
  clear bc_0 bc_1 bc_2 bc_3 bc_4 bd_0 bd_1 bd_2 bd_3 bd_4 bp_0 bp_1 br_0
  replace GC := hid_ (GC.out.ex hx16)
  replace GD := hid_ (GD.out.ex hx16)
  replace I8 := hid_ (I8.out.ex hx16)
  replace I9 := hid_ (I9.out.ex hx16)
  replace BT := hid_ (BT.out.ex hx16)
  replace BC := hid_ (BC.out.ex hx16)
  replace BD := hid_ (BD.out.ex hx16)
  replace BP := hid_ (BP.out.ex hx16)
  replace M1 := hid_ (M1.out.ex hx16)
  replace M2 := hid_ (M2.out.ex hx16)
  replace BM := hid_ (BM.out.ex hx16)
  replace R1 := hid_ (R1.out.ex hx16)
  replace BR := hid_ (BR.out.ex hx16)
  replace X1 := hid_ (X1.out.ex hx16)
  replace X2 := hid_ (X2.out.ex hx16)
  replace XB := hid_ (XB.out.ex hx16)
  replace WD := hid_ (WD.out.ex hx16)
  replace Y1 := hid_ (Y1.out.ex hx16)
  replace Y2 := hid_ (Y2.out.ex hx16)
  replace BYY := hid_ (BYY.out.ex hx16)
  replace Z1 := hid_ (Z1.out.ex hx16)
  replace Z2 := hid_ (Z2.out.ex hx16)
  replace BZ := hid_ (BZ.out.ex hx16)
  replace A1 := hid_ (A1.out.ex hx16)
  replace A2 := hid_ (A2.out.ex hx16)
  replace BA := hid_ (BA.out.ex hx16)
  replace EX := hid_ (EX.out.trans hx16)
  clear hx16
  have bc_0 := BC.out 0 _ rfl
  have bc_1 := BC.out 1 _ rfl
  have bc_2 := BC.out 2 _ rfl
  have bc_3 := BC.out 3 _ rfl
  have bc_4 := BC.out 4 _ rfl
  have bp_0 := BP.out 0 _ rfl
  have bp_1 := BP.out 1 _ rfl
  have br_0 := BR.out 0 _ rfl
  go_wp2_with fail
  refine (k_chk1 _ _ _ _ _ GC.out I8.out I9.out R1.out).mono ?_
  rintro e w17 ⟨rfl, hx17⟩
  clear bc_0 bc_1 bc_2 bc_3 bc_4 bp_0 bp_1 br_0
  replace GC := hid_ (GC.out.ex hx17)
  replace GD := hid_ (GD.out.ex hx17)
  replace I8 := hid_ (I8.out.ex hx17)
  replace I9 := hid_ (I9.out.ex hx17)
  replace BT := hid_ (BT.out.ex hx17)
  replace BC := hid_ (BC.out.ex hx17)
  replace BD := hid_ (BD.out.ex hx17)
  replace BP := hid_ (BP.out.ex hx17)
  replace M1 := hid_ (M1.out.ex hx17)
  replace M2 := hid_ (M2.out.ex hx17)
  replace BM := hid_ (BM.out.ex hx17)
  replace R1 := hid_ (R1.out.ex hx17)
  replace BR := hid_ (BR.out.ex hx17)
  replace X1 := hid_ (X1.out.ex hx17)
  replace X2 := hid_ (X2.out.ex hx17)
  replace XB := hid_ (XB.out.ex hx17)
  replace WD := hid_ (WD.out.ex hx17)
  replace Y1 := hid_ (Y1.out.ex hx17)
  replace Y2 := hid_ (Y2.out.ex hx17)
  replace BYY := hid_ (BYY.out.ex hx17)
  replace Z1 := hid_ (Z1.out.ex hx17)
  replace Z2 := hid_ (Z2.out.ex hx17)
  replace BZ := hid_ (BZ.out.ex hx17)
  replace A1 := hid_ (A1.out.ex hx17)
  replace A2 := hid_ (A2.out.ex hx17)
  replace BA := hid_ (BA.out.ex hx17)
  replace EX := hid_ (EX.out.trans hx17)
  clear hx17
  go_wp2_with fail
  go_ret
  exact ⟨rfl, EX.out⟩
end Go.Proofs.YtgdmlmhpineibaaGreat
