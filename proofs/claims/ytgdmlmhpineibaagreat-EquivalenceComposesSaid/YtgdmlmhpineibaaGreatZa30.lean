/- Walks of code.of, code.New. -/
/- Walks of codewrightref04.Pow and codewrightref31.frob. -/
import Derived.Test.YtgdmlmhpineibaaGreatZa10
import Derived.Test.YtgdmlmhpineibaaGreatZa26
import Derived.Test.YtgdmlmhpineibaaGreatZa27
namespace Go.Proofs.YtgdmlmhpineibaaGreat
set_option linter.unusedVariables false
set_option linter.unusedSimpArgs false
open Go.RowKit

/-- The box of a Code value, new and empty. -/
structure BxC (w : World) (b : Nat) : Prop where
  c0 : w.cell? ⟨b, 0, none⟩ = some (.int .i64 0)
  c1 : w.cell? ⟨b, 1, none⟩ = some (.int .i64 0)
  c2 : w.cell? ⟨b, 2, none⟩ = some (.slice none 0 0)
  c3 : w.cell? ⟨b, 3, none⟩ = some (.int .i64 0)
  c4 : w.cell? ⟨b, 4, none⟩ = some (.slice none 0 0)
  f0 : w.frozen? ⟨b, 0, none⟩ = false
  f1 : w.frozen? ⟨b, 1, none⟩ = false
  f2 : w.frozen? ⟨b, 2, none⟩ = false
  f3 : w.frozen? ⟨b, 3, none⟩ = false
  f4 : w.frozen? ⟨b, 4, none⟩ = false
theorem BxC.new (w : World) : BxC (w.alloc (.cells #[.int .i64 0, .int .i64 0, .slice none 0 0, .int .i64 0, .slice none 0 0] 47)) w.heap.size := ⟨by simp, by simp, by simp, by simp, by simp, by simp, by simp, by simp, by simp, by simp⟩
theorem BxC.ex {w w' : World} {b : Nat} (h : BxC w b) (hx : Ex w w') : BxC w' b := ⟨hx.cell h.c0, hx.cell h.c1, hx.cell h.c2, hx.cell h.c3, hx.cell h.c4, hx.frz h.c0 h.f0, hx.frz h.c1 h.f1, hx.frz h.c2 h.f2, hx.frz h.c3 h.f3, hx.frz h.c4 h.f4⟩
/-- Five stores into a box. -/
@[reducible] def set5 (w : World) (q : Nat) (a b c d e : Value) : World := ((((w.setCell ⟨q, 0, none⟩ a).setCell ⟨q, 1, none⟩ b).setCell ⟨q, 2, none⟩ c).setCell ⟨q, 3, none⟩ d).setCell ⟨q, 4, none⟩ e
theorem set5_ex {w0 w : World} {q : Nat} (hx : Ex w0 w) (hq : w0.heap.size ≤ q) (a b c d e : Value) : Ex w0 (set5 w q a b c d e) :=
  ((((hx.setCell (p := ⟨q, 0, none⟩) hq _).setCell (p := ⟨q, 1, none⟩) hq _).setCell (p := ⟨q, 2, none⟩) hq _).setCell (p := ⟨q, 3, none⟩) hq _).setCell (p := ⟨q, 4, none⟩) hq _
theorem set5_isl {w : World} {q : Nat} {v : Value} {l : List Int} (h : ISl w v l) (hq : ∀ B, v.ownBlock = some B → B ≠ q) (a b c d e : Value) : ISl (set5 w q a b c d e) v l :=
  Sl.other (Sl.other (Sl.other (Sl.other (Sl.other h (fun B e => hq B e) _) (fun B e => hq B e) _) (fun B e => hq B e) _) (fun B e => hq B e) _) (fun B e => hq B e) _
/-- What code.of hands back. -/
def OfR (p m : Int) (ml : List Int) (cols : Int) (v : Value) (e : Int) (r : Ending) (w' : World) (base : Nat) : Prop :=
  (e ≠ 0 ∧ r = .returned (.tuple #[.agg #[.int .i64 0, .int .i64 0, .slice none 0 0, .int .i64 0, .slice none 0 0], .int .i64 e])) ∨
  (e = 0 ∧ ∃ v', r = .returned (.tuple #[.agg #[.int .i64 p, .int .i64 m, v', .int .i64 cols, v], .int .i64 0]) ∧ ISl w' v' ml ∧ ∀ B, v'.ownBlock = some B → base ≤ B)
set_option maxRecDepth 100000 in
set_option maxHeartbeats 4000000 in
theorem codeOf_any (w : World) (p m : Int) (ml : List Int) (mv : Value) (hmv : ISl w mv ml) (hn : ml.length ≤ 1000) (cols : Int) (rows : List (List Int)) (v : Value) (hv : MSl w v rows) (e : Int) :
    Calls Tryz.prog 81 #[.agg #[.int .i64 p, .int .i64 m, mv], .agg #[.int .i64 cols, v], .int .i64 e] w fun r w' => OfR p m ml cols v e r w' w.heap.size ∧ Ex w w' := by
  obtain ⟨g0, g1, g2, e0, gsz⟩ := box_facts w p m mv
  have HOW := hid_ (fun (w' : World) (h : Ex w w') => own_any w' p m ml mv (hmv.ex h) hn)
  obtain ⟨za, zc, rfl, -, z2, -⟩ := hv.open
  unfold maxLen at z2
  obtain ⟨ma, mc, rfl, -, m2, -⟩ := hmv.open
  unfold maxLen at m2
  obtain ⟨xb, hxb⟩ : ∃ xb, w.heap.size = xb := ⟨_, rfl⟩
  rw [hxb] at g0 g1 g2 gsz
  clear hmv hv hn
  go_enter Tryz.func81, Tryz.ntmps81
  by_cases h1 : e = 0
  · subst h1
    go_wp2_with fail
    generalize w.alloc (.cells #[.int .i64 p, .int .i64 m, .slice ma ml.length mc] 24) = wA at *
    obtain ⟨a0, a1, ea⟩ := boxM2_facts wA cols (.slice za rows.length zc)
    have asz : (wA.alloc (.cells #[.int .i64 cols, .slice za rows.length zc] 113)).heap.size = xb + 1 + 1 := by simp [gsz]
    rw [gsz] at a0 a1
    generalize wA.alloc (.cells #[.int .i64 cols, .slice za rows.length zc] 113) = wB at *
    have bq := BxC.new wB
    rw [asz] at bq
    have eb : Ex wB _ := (Ex.refl wB).alloc (.cells #[.int .i64 0, .int .i64 0, .slice none 0 0, .int .i64 0, .slice none 0 0] 47)
    have A0 := hid_ a0
    have A1 := hid_ a1
    have G0 := hid_ (ea.cell g0)
    have G1 := hid_ (ea.cell g1)
    have G2 := hid_ (ea.cell g2)
    have EB := hid_ eb
    have HQB := hid_ (show wB.heap.size ≤ xb + 1 + 1 from Nat.le_of_eq asz)
    have BQ := hid_ bq
    have HE := hid_ ((e0.trans ea).trans eb)
    have csz : (wB.alloc (.cells #[.int .i64 0, .int .i64 0, .slice none 0 0, .int .i64 0, .slice none 0 0] 47)).heap.size = xb + 1 + 1 + 1 := by simp [asz]
    generalize wB.alloc (.cells #[.int .i64 0, .int .i64 0, .slice none 0 0, .int .i64 0, .slice none 0 0] 47) = wC at *
    clear g0 g1 g2 a0 a1 bq e0 ea eb asz gsz
    have HXB := hid_ hxb
    have CSZ := hid_ csz
    clear hxb csz
    have X0 : Ex wC wC.drew := (Ex.refl wC).drew
    have HALL := hid_ (fun (w' : World) (h' : Ex wB w') => (⟨h'.cell G0.out, h'.cell G1.out, h'.cell G2.out, h'.cell A0.out, h'.cell A1.out⟩ : w'.cell? ⟨xb, 0, none⟩ = some (.int .i64 p) ∧ w'.cell? ⟨xb, 1, none⟩ = some (.int .i64 m) ∧ w'.cell? ⟨xb, 2, none⟩ = some (.slice ma ml.length mc) ∧ w'.cell? ⟨xb + 1, 0, none⟩ = some (.int .i64 cols) ∧ w'.cell? ⟨xb + 1, 1, none⟩ = some (.slice za rows.length zc)))
    have HAL5 := hid_ (fun (w' : World) (h' : Ex wB w') (a b c d e : Value) => HALL.out _ (set5_ex h' HQB.out a b c d e))
    have Y0 := hid_ (EB.out.trans X0)
    go_region_held3 (fun w' => w'.cell? ⟨xb, 0, none⟩ = some (.int .i64 p) ∧ w'.cell? ⟨xb, 1, none⟩ = some (.int .i64 m) ∧ w'.cell? ⟨xb, 2, none⟩ = some (.slice ma ml.length mc) ∧ w'.cell? ⟨xb + 1, 0, none⟩ = some (.int .i64 cols) ∧ w'.cell? ⟨xb + 1, 1, none⟩ = some (.slice za rows.length zc))
      (first | with_reducible exact HALL.out _ Y5.out | with_reducible exact HAL5.out _ Y5.out _ _ _ _ _ | with_reducible exact HALL.out _ Y0.out)
      (first | (go_at_call 127; (with_reducible refine (HOW.out _ (HE.out.trans X0)).mono ?_); rintro e w5 ⟨v', rfl, hv', hb', h5⟩; have X5 := X0.trans h5; have Y5 := hid_ (EB.out.trans X5); obtain ⟨q0, q1, q2, q3, q4, qf0, qf1, qf2, qf3, qf4⟩ := BQ.out.ex X5; have HV5 := hid_ hv'; have HB5 := hid_ hb'; obtain ⟨va, vc, rfl, -, -, -⟩ := hv'.open; clear h5 hv' hb'))
    all_goals
      go_wp2_with fail
      have hsz : wC.drew.heap.size = xb + 1 + 1 + 1 := CSZ.out
      have hwx := HXB.out
      exact bodyPost_ret (v := .tuple #[.agg #[.int .i64 p, .int .i64 m, .slice va ml.length vc, .int .i64 cols, .slice za rows.length zc], .int .i64 0]) (by simp [results, Tryz.results81, go_sem, q0, q1, q2, q3, q4]) rfl ⟨.inr ⟨rfl, _, rfl, set5_isl HV5.out (fun B h => by have := HB5.out B h; omega) _ _ _ _ _, fun B h => by have := HB5.out B h; omega⟩, set5_ex (HE.out.trans X5) (by omega) _ _ _ _ _⟩
  · have hb : (e != 0) = true := by simpa using h1
    have HH := hid_ h1
    have ex1 := boxM2_facts (w.alloc (.cells #[.int .i64 p, .int .i64 m, .slice ma ml.length mc] 24)) cols (.slice za rows.length zc)
    have bsz : ((w.alloc (.cells #[.int .i64 p, .int .i64 m, .slice ma ml.length mc] 24)).alloc (.cells #[.int .i64 cols, .slice za rows.length zc] 113)).heap.size = xb + 1 + 1 := by simp [gsz]
    have bq := BxC.new ((w.alloc (.cells #[.int .i64 p, .int .i64 m, .slice ma ml.length mc] 24)).alloc (.cells #[.int .i64 cols, .slice za rows.length zc] 113))
    have HE := hid_ ((e0.trans ex1.2.2).alloc (.cells #[.int .i64 0, .int .i64 0, .slice none 0 0, .int .i64 0, .slice none 0 0] 47))
    rw [bsz] at bq
    obtain ⟨q0, q1, q2, q3, q4, qf0, qf1, qf2, qf3, qf4⟩ := bq
    clear h1 ex1 g0 g1 g2 e0
    go_wp2_with fail
    exact bodyPost_ret (v := .tuple #[.agg #[.int .i64 0, .int .i64 0, .slice none 0 0, .int .i64 0, .slice none 0 0], .int .i64 e]) (by simp [results, Tryz.results81, go_sem, q0, q1, q2, q3, q4, hxb]) rfl ⟨.inl ⟨HH.out, rfl⟩, by first | exact HE.out | exact set5_ex HE.out (by omega) _ _ _ _ _⟩
end Go.Proofs.YtgdmlmhpineibaaGreat
namespace Go.Proofs.YtgdmlmhpineibaaGreat
set_option linter.unusedVariables false
set_option linter.unusedSimpArgs false
open Go.RowKit

theorem kpw_mod {p m : Nat} {low : Vc} (hp : 2 ≤ p) (hm : 1 ≤ m) (hF : IsF p m low) {z : Nat} (h1 : 1 ≤ z) (h2 : z < p ^ m) (e : Nat) : kpw p m low z (e % (p ^ m - 1)) = kpw p m low z e := by
  obtain ⟨x0, -, -, hg⟩ := hF
  obtain ⟨i, hi, rfl⟩ := hg.all hp hm h1 h2
  rw [kpw_kpw hp hm, kpw_kpw hp hm, ← hg.mod hp hm (i * (e % (p ^ m - 1))), ← hg.mod hp hm (i * e), Nat.mul_mod, Nat.mod_mod, ← Nat.mul_mod]
section
variable {p m : Nat} {ml : List Int} {mv : Value}
set_option maxRecDepth 100000 in
set_option maxHeartbeats 1000000 in
theorem rPow_any (w : World) (hf : FSh p m ml) (hF : IsF p m (lw ml)) (hmv : ISl w mv ml) (x : Int) (e : Nat) (he1 : 1 ≤ e) (he2 : e ≤ 1000) :
    Calls Tryz.prog 95 #[.agg #[.int .i64 p, .int .i64 m, mv], .int .i64 x, .int .i64 e] w fun r w' => r = .returned (.tuple #[.int .i64 (kpw p m (lw ml) (kin (p ^ m) x) e : Nat), .int .i64 0]) ∧ Ex w w' := by
  obtain ⟨d0, d1, d2, e0, hsz⟩ := box_facts w p m mv
  have HMV := hid_ hmv
  have p2 := hf.p2
  have m1 := hf.m1
  have hq := hf.q
  have hq1 := one_lt_q p2 m1
  have hz : kin (p ^ m) x < p ^ m := kin_lt (by omega) x
  have he0 : ((e : Int) == 0) = false := by simp; omega
  have hel : decide ((e : Int) < 0) = false := decide_eq_false (by omega)
  have HI := hid_ (fun w' => rIn_any (mv := mv) w' hf x)
  have HO := hid_ (fun w' => rOrder_any p m mv w')
  have ho := hf.ord
  rw [ho] at HO
  have HE0 := hid_ e0
  have HKM := hid_ (fun (h1 : 1 ≤ kin (p ^ m) x) => kpw_mod p2 m1 hF h1 hz e)
  have HMU := hid_ (fun (w' : World) (h : Ex w w') (a b : Nat) (ha : a < p ^ m) (hb : b < p ^ m) => show Calls Tryz.prog 60 #[.agg #[.int .i64 p, .int .i64 m, mv], .int .i64 a, .int .i64 b] w' fun r w'' => r = .returned (.int .i64 (kmul p m (lw ml) a b : Nat)) ∧ Ex w' w'' from by
    have := rMul_any w' hf (hmv.ex h) a b
    rw [kin_of ha, kin_of hb] at this
    exact this)
  have HKL := hid_ (fun y k => kpw_lt (low := lw ml) p2 m1 y k)
  have HKZ := hid_ (kpw_zero (m := m) (low := lw ml) (show 1 ≤ p by omega) e he1)
  generalize kin (p ^ m) x = z at *
  obtain ⟨F, hFF⟩ : ∃ F, kpw p m (lw ml) z e = F := ⟨_, rfl⟩
  rw [hFF] at HKM
  have HFF := hid_ hFF
  rw [hFF]
  clear hf hF hmv e0 hsz ho hFF
  go_enter Tryz.func95, Tryz.ntmps95
  go_wp2_with fail
  obtain ⟨B, hB⟩ : ∃ B, w.heap.size = B := ⟨_, rfl⟩
  rw [hB] at d0 d1 d2
  try simp only [hB]
  clear hB
  generalize w.alloc (.cells #[.int .i64 p, .int .i64 m, mv] 24) = w1 at *
  refine (HI.out w1).mono ?_
  rintro e w2 ⟨rfl, hx2⟩
  have HALL := hid_ (fun w' (h : Ex w1 w') => (⟨h.cell d0, h.cell d1, h.cell d2⟩ : _ ∧ _ ∧ _))
  have HX2 := hid_ hx2
  clear hx2 d0 d1 d2
  obtain ⟨d0, d1, d2⟩ := HALL.out w2 HX2.out
  by_cases h0 : z = 0
  · subst h0
    have HR := hid_ (show F = 0 from HFF.out.symm.trans HKZ.out)
    clear HKM
    go_wp2_with fail
    go_ret2
    exact ⟨by rw [HR.out]; rfl, HE0.out.trans HX2.out⟩
  · have z1 : 1 ≤ z := by omega
    have hzb : ((z : Int) == 0) = false := by simp; omega
    have HK := hid_ (HKM.out z1)
    obtain ⟨d, hd⟩ : ∃ d, e % (p ^ m - 1) = d := ⟨_, rfl⟩
    have hdq : d < p ^ m - 1 := by rw [← hd]; exact Nat.mod_lt _ (by omega)
    rw [hd] at HK
    have T1 : Hid ((e : Int).tmod (((p ^ m : Nat) : Int) - 1) = (d : Int)) := hid_ (by
      rw [Int.tmod_eq_emod_of_nonneg (by omega), ← hd, Int.natCast_emod]
      congr 1
      omega)
    have T2 : Hid (((d : Int) + (((p ^ m : Nat) : Int) - 1)).tmod (((p ^ m : Nat) : Int) - 1) = (d : Int)) := hid_ (by
      rw [Int.tmod_eq_emod_of_nonneg (by omega), Int.add_emod_right]
      exact Int.emod_eq_of_lt (by omega) (by omega))
    have HZL := hid_ hz
    have HQ := hid_ (show ∀ y k, kpw p m (lw ml) y k < p ^ m from HKL.out)
    generalize hQ : p ^ m = q at *
    have HQQ := hid_ hQ
    clear h0 hd HKM HKZ hQ
    go_wp2_with fail
    refine (HO.out w2).mono ?_
    rintro e w3 ⟨rfl, hx3⟩
    have HX3 := hid_ (HX2.out.trans hx3)
    clear hx3 d0 d1 d2
    have i0 := T1.out
    have i3 := T2.out
    have i4 : ¬ q = 1 := by omega
    have i5 : ¬ ((q : Int) - 1 = 0) := by omega
    go_wp2_with fail
    clear i0 i3
    go_loopw [9, 10] (fun y' i' wr => ∃ (i : Nat), i ≤ d ∧ i' = .int .i64 i ∧ y' = .int .i64 (kpw p m (lw ml) z i : Nat) ∧ Hid (Ex w1 wr)) (fun _ i' _ => d - (intOf i').toNat)
    case atStart => exact ⟨0, by omega, rfl, rfl, HX3⟩
    case round =>
      obtain ⟨i, hi, rfl, rfl, hex⟩ := hrel
      obtain ⟨d0, d1, d2⟩ := HALL.out wr hex.out
      by_cases hid : i < d
      · have hmu := HMU.out wr (HE0.out.trans hex.out) (kpw p m (lw ml) z i) z (HQ.out _ _) HZL.out
        have HS := hid_ (show kmul p m (lw ml) (kpw p m (lw ml) z i) z = kpw p m (lw ml) z (i + 1) from rfl)
        obtain ⟨y, hy⟩ : ∃ y, kpw p m (lw ml) z i = y := ⟨_, rfl⟩
        obtain ⟨u, hu⟩ : ∃ u, kpw p m (lw ml) z (i + 1) = u := ⟨_, rfl⟩
        rw [hy, hu] at HS
        rw [hy, HS.out] at hmu
        rw [hy]
        have HU := hid_ hu
        have HM := hid_ hmu
        clear hy hu hmu
        go_wp2_with fail
        refine HM.out.mono ?_
        rintro e w4 ⟨rfl, hx4⟩
        have HX4 := hid_ (hex.out.trans hx4)
        clear hx4
        go_wp2_with fail
        go_roundw
        case rel => exact ⟨i + 1, by omega, by go_num, by rw [HU.out], HX4⟩
        case measure => simp [intOf]; omega
      · obtain rfl : i = d := by omega
        go_wp2_with fail
        go_ret2
        exact ⟨by rw [HK.out]; rfl, HE0.out.trans hex.out⟩
set_option maxRecDepth 100000 in
set_option maxHeartbeats 1000000 in
theorem rFrob_any (w : World) (hf : FSh p m ml) (hF : IsF p m (lw ml)) (hmv : ISl w mv ml) (x : Nat) (hx : x < p ^ m) (k : Nat) (hk : k ≤ 100) :
    Calls Tryz.prog 54 #[.agg #[.int .i64 p, .int .i64 m, mv], .int .i64 x, .int .i64 k] w fun r w' => r = .returned (.int .i64 (frb p m (lw ml) x k : Nat)) ∧ Ex w w' := by
  obtain ⟨d0, d1, d2, e0, hsz⟩ := box_facts w p m mv
  have p2 := hf.p2
  have m1 := hf.m1
  have hp := hf.p256
  have HPW := hid_ (fun (w' : World) (h : Ex w w') (y : Nat) (hy : y < p ^ m) => show Calls Tryz.prog 95 #[.agg #[.int .i64 p, .int .i64 m, mv], .int .i64 y, .int .i64 p] w' fun r w'' => r = .returned (.tuple #[.int .i64 (kpw p m (lw ml) y p : Nat), .int .i64 0]) ∧ Ex w' w'' from by
    have := rPow_any w' hf hF (hmv.ex h) y p (by omega) (by omega)
    rw [kin_of hy] at this
    exact this)
  have HL := hid_ (fun j => frb_lt (low := lw ml) p2 m1 hx j)
  have HE0 := hid_ e0
  clear hf hF hmv e0 hsz
  go_enter Tryz.func54, Tryz.ntmps54
  go_wp2_with fail
  obtain ⟨B, hB⟩ : ∃ B, w.heap.size = B := ⟨_, rfl⟩
  rw [hB] at d0 d1 d2
  try simp only [hB]
  clear hB
  generalize w.alloc (.cells #[.int .i64 p, .int .i64 m, mv] 24) = w1 at *
  have HALL := hid_ (fun w' (h : Ex w1 w') => (⟨h.cell d0, h.cell d1, h.cell d2⟩ : _ ∧ _ ∧ _))
  clear d0 d1 d2
  go_loopw [1, 7] (fun y' i' wr => ∃ (i : Nat), i ≤ k ∧ i' = .int .i64 i ∧ y' = .int .i64 (frb p m (lw ml) x i : Nat) ∧ Hid (Ex w1 wr)) (fun _ i' _ => k - (intOf i').toNat)
  case atStart => exact ⟨0, by omega, rfl, rfl, hid_ (Ex.refl _)⟩
  case round =>
    obtain ⟨i, hi, rfl, rfl, hex⟩ := hrel
    obtain ⟨d0, d1, d2⟩ := HALL.out wr hex.out
    by_cases hid : i < k
    · have hmu := HPW.out wr (HE0.out.trans hex.out) (frb p m (lw ml) x i) (HL.out _)
      have HS := hid_ (show kpw p m (lw ml) (frb p m (lw ml) x i) p = frb p m (lw ml) x (i + 1) from rfl)
      obtain ⟨y, hy⟩ : ∃ y, frb p m (lw ml) x i = y := ⟨_, rfl⟩
      obtain ⟨u, hu⟩ : ∃ u, frb p m (lw ml) x (i + 1) = u := ⟨_, rfl⟩
      rw [hy, hu] at HS
      rw [hy, HS.out] at hmu
      rw [hy]
      have HU := hid_ hu
      have HM := hid_ hmu
      clear hy hu hmu
      go_wp2_with fail
      refine HM.out.mono ?_
      rintro e w4 ⟨rfl, hx4⟩
      have HX4 := hid_ (hex.out.trans hx4)
      clear hx4
      go_wp2_with fail
      go_roundw
      case rel => exact ⟨i + 1, by omega, by go_num, by rw [HU.out], HX4⟩
      case measure => simp [intOf]; omega
    · obtain rfl : i = k := by omega
      go_wp2_with fail
      go_ret
      exact ⟨rfl, HE0.out.trans hex.out⟩
end
end Go.Proofs.YtgdmlmhpineibaaGreat
