/- Walk of equivalence.CheckRefutation. -/
/- Walks of codewrightref04.Pow and codewrightref31.frob. -/
/- Walk of codewrightref31.image. -/
/- Walks of the reference's Entries (any field), List, Weight and Word. -/
/- The walk of codewrightref09.Few, with its value. -/
/- Plain: a span of the search holds exactly the words of its rows' space. -/
/- Plain: monomial maps compose, have inverses, keep weights. -/
/- Walks of codewrightref10.Pivots, Zero. -/
/- Walks of codewrightref10.Rest and In. -/
import Derived.Laws.EntriesVeiled
import Derived.Deep.RegionHeld3
import Derived.Test.YtgdmlmhpineibaaGreatZd09
import Derived.Test.YtgdmlmhpineibaaGreatZd16
import Derived.Test.YtgdmlmhpineibaaGreatZd18
import Derived.Test.YtgdmlmhpineibaaGreatZd19
import Derived.Test.YtgdmlmhpineibaaGreatZd20
import Derived.Test.YtgdmlmhpineibaaGreatZd24
import Derived.Test.YtgdmlmhpineibaaGreatZd26
import Derived.Test.YtgdmlmhpineibaaGreatZd28
import Derived.Test.YtgdmlmhpineibaaGreatZd30
import Derived.Test.YtgdmlmhpineibaaGreatZd32
import Derived.Test.YtgdmlmhpineibaaGreatZd33
import Derived.Test.YtgdmlmhpineibaaGreatZd43
namespace Go.Proofs.YtgdmlmhpineibaaGreat
set_option linter.unusedVariables false
set_option linter.unusedSimpArgs false
open Go.RowKit

theorem boxRf (w : World) (ev : Value) : (w.alloc (.cells #[ev] 54)).cell? ⟨w.heap.size, 0, none⟩ = some ev := by simp
def flS (c d : CdV) (es : List Rf) (tl sl : List Int) : Nat × Int := flF c.p.toNat c.m.toNat c.ml c.rows d.rows c.n.toNat es (c.n.toNat - tl.length) 0 tl sl
def ckE (E : Int) (R : Nat × Int) (es : List Rf) : Int := if E ≠ 0 then E else if R.2 = 0 ∧ R.1 < es.length then 13 else R.2
set_option maxRecDepth 100000 in
set_option maxHeartbeats 8000000 in
theorem CheckRefutation_any (w : World) (c d : CdV) (m1 m2 v1 v2 : Value) (hc : c.at w m1 v1) (hd : d.at w m2 v2) (tl sl : List Int) (tv sv : Value) (ht : ISl w tv tl) (hs : ISl w sv sl) (es : List Rf) (ev : Value) (hr : RSl w ev es) :
    Calls Tryz.prog 34 #[c.arg m1 v1, d.arg m2 v2, .agg #[tv, sv], .agg #[ev]] w fun r w' => (∃ e1 e2 : Int, CodO c.p c.m c.ml c.n c.rows e1 ∧ (e1 = 0 → CodO d.p d.m d.ml d.n d.rows e2) ∧ r = .returned (.int .i64 (ckE (stE e1 e2 (samF c.p c.m c.ml d.p d.m d.ml) c.n d.n tl sl (c.p.toNat ^ c.m.toNat)) (flS c d es tl sl) es))) ∧ Ex w w' := by
  obtain ⟨c0, c1, c2, c3, c4⟩ := boxC5 w c m1 v1
  obtain ⟨d0, d1, d2, d3, d4⟩ := boxC5 (w.alloc (c.obj m1 v1)) d m2 v2
  obtain ⟨b0, b1, e3, hz3⟩ := boxP_facts ((w.alloc (c.obj m1 v1)).alloc (d.obj m2 v2)) tv sv
  have hbm := boxRf (((w.alloc (c.obj m1 v1)).alloc (d.obj m2 v2)).alloc (.cells #[tv, sv] 49)) ev
  have hz1 : (w.alloc (c.obj m1 v1)).heap.size = w.heap.size + 1 := by simp
  have hz2 : ((w.alloc (c.obj m1 v1)).alloc (d.obj m2 v2)).heap.size = w.heap.size + 1 + 1 := by simp
  have e1 := e_al w (c.obj m1 v1)
  have e2 := e_al (w.alloc (c.obj m1 v1)) (d.obj m2 v2)
  have e4 := e_al (((w.alloc (c.obj m1 v1)).alloc (d.obj m2 v2)).alloc (.cells #[tv, sv] 49)) (.cells #[ev] 54)
  rw [hz3, hz2] at hbm
  rw [hz1] at d0 d1 d2 d3 d4
  rw [hz2] at b0 b1
  have hxw := e1.trans (e2.trans (e3.trans e4))
  replace c0 := (e2.trans (e3.trans e4)).cell c0
  replace c1 := (e2.trans (e3.trans e4)).cell c1
  replace c2 := (e2.trans (e3.trans e4)).cell c2
  replace c3 := (e2.trans (e3.trans e4)).cell c3
  replace c4 := (e2.trans (e3.trans e4)).cell c4
  replace d0 := (e3.trans e4).cell d0
  replace d1 := (e3.trans e4).cell d1
  replace d2 := (e3.trans e4).cell d2
  replace d3 := (e3.trans e4).cell d3
  replace d4 := (e3.trans e4).cell d4
  replace b0 := e4.cell b0
  replace b1 := e4.cell b1
  obtain ⟨B, hB⟩ : ∃ B, w.heap.size = B := ⟨_, rfl⟩
  rw [hB] at c0 c1 c2 c3 c4 d0 d1 d2 d3 d4 b0 b1 hbm
  have HST := hid_ (start_any _ c d m1 m2 v1 v2 (hc.ex hxw) (hd.ex hxw) tl sl tv sv (ht.ex hxw) (hs.ex hxw))
  obtain ⟨ta, tc, rfl, -, t2, -⟩ := ht.open
  obtain ⟨sa, sc, rfl, -, s2, -⟩ := hs.open
  obtain ⟨x1, y1, rfl, -, z1, -⟩ := hc.g.open
  obtain ⟨x2, y2, rfl, -, z2, -⟩ := hd.g.open
  obtain ⟨x3, y3, rfl, -, z3, -⟩ := hc.m.open
  obtain ⟨x4, y4, rfl, -, z4, -⟩ := hd.m.open
  unfold maxLen at t2 s2 z1 z2 z3 z4
  have HX := hid_ hxw
  have HC := hid_ hc
  have HD := hid_ hd
  have HT := hid_ ht
  have HS := hid_ hs
  have HR := hid_ hr
  have HBM := hid_ hbm
  obtain ⟨ra, rc, rfl, hrc, -, -⟩ := rsl_open hr
  unfold maxLen at hrc
  have HWB := hid_ hB
  clear hc hd ht hs hr e1 e2 e3 e4 hz1 hz2 hz3 hxw hbm
  unfold CdV.arg at HST ⊢
  go_enter Tryz.func34, Tryz.ntmps34
  unfold CdV.obj at c0 c1 c2 c3 c4 d0 d1 d2 d3 d4 b0 b1 HX HBM HST
  go_upto_region 1 with fail
  try simp only [hB]
  clear hB
  generalize (((w.alloc (.cells #[.int .i64 c.p, .int .i64 c.m, .slice x3 c.ml.length y3, .int .i64 c.n, .slice x1 c.rows.length y1] 47)).alloc (.cells #[.int .i64 d.p, .int .i64 d.m, .slice x4 d.ml.length y4, .int .i64 d.n, .slice x2 d.rows.length y2] 47)).alloc (.cells #[.slice ta tl.length tc, .slice sa sl.length sc] 49)).alloc (.cells #[.slice ra es.length rc] 54) = w1 at *
  have B0 := hid_ b0
  have B1 := hid_ b1
  go_wp2_with fail
  refine HST.out.mono ?_
  rintro e w3 ⟨ho, hx3⟩
  have HX3 := hid_ hx3
  obtain ⟨e1, e2, ho1, ho2, ho⟩ := ho
  have HO1 := hid_ ho1
  have HO2 := hid_ ho2
  clear c0 c1 c2 c3 c4 d0 d1 d2 d3 d4 hx3 ho1 ho2 HST b0 b1
  obtain ⟨E, hE⟩ : ∃ E, stE e1 e2 (samF c.p c.m c.ml d.p d.m d.ml) c.n d.n tl sl (c.p.toNat ^ c.m.toNat) = E := ⟨_, rfl⟩
  rw [hE] at ho
  have HE := hid_ hE
  rcases ho with ⟨h0, ptr, rfl⟩ | ⟨h0, w2, A, b, x0, pn, mn, nn, hp, hm, hnn, rfl, hx2, hg, hx01, hx02, hA, hx23, hpr, h11, hf11⟩
  · have hb0 : (E != 0) = true := by simpa using h0
    have H0 := hid_ h0
    clear h0 hE
    go_wp2_with fail
    go_ret
    refine ⟨⟨e1, e2, HO1.out, HO2.out, ?_⟩, (HX.out.trans HX3.out).alloc _⟩
    rw [HE.out]
    unfold ckE
    rw [if_pos H0.out]; rfl
  · subst h0
    obtain ⟨k1, k2, k3, k4, k5, k6, k7, k8, k9⟩ := stE_ok hE
    subst k1
    have ho2 := HO2.out rfl
    subst k2
    obtain ⟨kl1, kr1⟩ := codO_rows HO1.out
    obtain ⟨kl2, kr2⟩ := codO_rows ho2
    obtain ⟨-, kn1, kn2⟩ := codO_fld HO1.out
    obtain ⟨SB, hSB⟩ : ∃ B, w3.heap.size = B := ⟨_, rfl⟩
    have hxw2 := HX.out.trans hx2
    have b0 := HX3.out.cell B0.out
    have b1 := HX3.out.cell B1.out
    have r0 := HX3.out.cell HBM.out
    have HK := hid_ (show c.n = d.n ∧ tl.length = sl.length ∧ (tl.length : Int) ≤ c.n ∧ rngB tl c.n = true from ⟨k4, k5, k6, k7⟩)
    have HPM := hid_ (show c.p = pn ∧ c.m = mn ∧ c.n = nn from ⟨hp, hm, hnn⟩)
    clear HBM hp hm hnn k3 k4 k5 k6 k7 k8 k9 hE
    go_upto_region 7 with fail
    have f1 := e_al w3 (.cells #[.pointer (some ⟨A, 0, none⟩)] 96)
    have f2 := e_al (w3.alloc (.cells #[.pointer (some ⟨A, 0, none⟩)] 96)) (.cells #[.int .i64 0] 3)
    have f3 := e_al ((w3.alloc (.cells #[.pointer (some ⟨A, 0, none⟩)] 96)).alloc (.cells #[.int .i64 0] 3)) (.cells #[folV (SB + 1) (B + 1 + 1 + 1) SB (SB + 1 + 1)] 105)
    have sb0 : (w3.alloc (.cells #[.pointer (some ⟨A, 0, none⟩)] 96)).cell? ⟨SB, 0, none⟩ = some (.pointer (some ⟨A, 0, none⟩)) := alloc1_cell _ _ _ hSB
    have hs4 : (w3.alloc (.cells #[.pointer (some ⟨A, 0, none⟩)] 96)).heap.size = SB + 1 := by simp [hSB]
    have ab0 : ((w3.alloc (.cells #[.pointer (some ⟨A, 0, none⟩)] 96)).alloc (.cells #[.int .i64 0] 3)).cell? ⟨SB + 1, 0, none⟩ = some (.int .i64 0) := alloc1_cell _ _ _ hs4
    have af0 : ((w3.alloc (.cells #[.pointer (some ⟨A, 0, none⟩)] 96)).alloc (.cells #[.int .i64 0] 3)).frozen? ⟨SB + 1, 0, none⟩ = false := alloc1_frz _ _ _ hs4
    have hs5 : ((w3.alloc (.cells #[.pointer (some ⟨A, 0, none⟩)] 96)).alloc (.cells #[.int .i64 0] 3)).heap.size = SB + 1 + 1 := by simp [hSB]
    have fb0 : (((w3.alloc (.cells #[.pointer (some ⟨A, 0, none⟩)] 96)).alloc (.cells #[.int .i64 0] 3)).alloc (.cells #[folV (SB + 1) (B + 1 + 1 + 1) SB (SB + 1 + 1)] 105)).cell? ⟨SB + 1 + 1, 0, none⟩ = some (folV (SB + 1) (B + 1 + 1 + 1) SB (SB + 1 + 1)) := alloc1_cell _ _ _ hs5
    have hxS := hx23.trans f1
    have HENV := hid_ (show CkE pn mn c.ml c.rows d.rows nn A b x0 (B + 1 + 1 + 1) SB (.slice x1 c.rows.length y1) (.slice x2 d.rows.length y2) (.slice ra es.length rc) es (w3.alloc (.cells #[.pointer (some ⟨A, 0, none⟩)] 96)) from
      { pr := hpr.ex f1, gf := hg.ex hxS, m1 := (HC.out.g.ex hxw2).ex hxS, m2 := (HD.out.g.ex hxw2).ex hxS, x1 := hx01, x2 := hx02, n64 := by have := HPM.out.2.2; omega, r1 := fun r hr => by have := kr1 r hr; have := HPM.out.2.2; omega, r2 := fun r hr => by have := kr2 r hr; have := HPM.out.2.2; have := HK.out.1; omega, k1 := kl1, k2 := kl2, rb := f1.cell r0, sb := sb0, rs := (HR.out.ex hxw2).ex hxS })
    have HCS := hid_ (show CSt (w3.alloc (.cells #[.pointer (some ⟨A, 0, none⟩)] 96)) (SB + 1) (SB + 1 + 1) (folV (SB + 1) (B + 1 + 1 + 1) SB (SB + 1 + 1)) es.length 0 (((w3.alloc (.cells #[.pointer (some ⟨A, 0, none⟩)] 96)).alloc (.cells #[.int .i64 0] 3)).alloc (.cells #[folV (SB + 1) (B + 1 + 1 + 1) SB (SB + 1 + 1)] 105)) from
      { ex := f2.trans f3, c := f3.cell ab0, f := f3.frz ab0 af0, fb := fb0, ne := by omega, lb := by rw [hs4]; omega, le := Nat.zero_le _ })
    have HP := hid_ (fun (v : Value) (l : List Int) (h : ISl w v l) => show PrS (DM1 (SB + 1)) (((w3.alloc (.cells #[.pointer (some ⟨A, 0, none⟩)] 96)).alloc (.cells #[.int .i64 0] 3)).alloc (.cells #[folV (SB + 1) (B + 1 + 1 + 1) SB (SB + 1 + 1)] 105)) v l from by
      refine ⟨h.ex (((hxw2.trans hx23).trans f1).trans (f2.trans f3)), fun hl X hX hd => ?_⟩
      have h2 := h.ex (hxw2.trans hx23)
      obtain ⟨a, cap, rfl, -, -, h5⟩ := h2.open
      obtain ⟨b', o, rfl, h6⟩ := h5 (List.length_pos_iff.2 hl)
      injection hX with hX
      have hX : b' = X := hX
      have := World.block_lt_of_cell? _ _ (h6 0 _ (get_getD (List.length_pos_iff.2 hl)))
      have hd : X = SB + 1 := hd
      simp only at this
      omega)
    have b0 := (f1.trans (f2.trans f3)).cell b0
    have b1 := (f1.trans (f2.trans f3)).cell b1
    have r0 := (f1.trans (f2.trans f3)).cell r0
    have HFO := hid_ (follow_any HENV.out (nn - tl.length) 0 _ tl sl (.slice ta tl.length tc) (.slice sa sl.length sc) (by have := HK.out.2.2.1; have := HPM.out.2.2; omega) HK.out.2.1.symm (by have := HK.out.2.2.2; rw [HPM.out.2.2] at this; exact this) (fun h => absurd rfl h) HCS.out (HP.out _ _ HT.out) (HP.out _ _ HS.out))
    have hR : flF pn mn c.ml c.rows d.rows nn es (nn - tl.length) 0 tl sl = flS c d es tl sl := by
      unfold flS
      rw [HPM.out.1, HPM.out.2.1, HPM.out.2.2]; rfl
    rw [hR] at HFO
    have fb1 := hid_ fb0
    unfold folV at b0 b1 r0 fb0 HFO HCS f3
    have HW3 := hid_ (hxw2.trans hxS)
    have r0w := HENV.out.rb
    clear hxS hxw2 hs4 hs5 sb0 ab0 af0 f1 f2 HP hx23 hpr hg hx01 hx02 hA h11 hf11 hx2 kl1 kl2 kr1 kr2 kn1 kn2 hR
    generalize ((w3.alloc (.cells #[.pointer (some ⟨A, 0, none⟩)] 96)).alloc (.cells #[.int .i64 0] 3)).alloc (.cells #[.func (.func 70) #[] #[.pointer (some ⟨SB + 1, 0, none⟩), .pointer (some ⟨B + 1 + 1 + 1, 0, none⟩), .pointer (some ⟨SB, 0, none⟩), .pointer (some ⟨SB + 1 + 1, 0, none⟩)]] 105) = w6 at *
    obtain ⟨R, hR⟩ : ∃ R, flS c d es tl sl = R := ⟨_, rfl⟩
    rw [hR] at HFO
    have HRE := hid_ hR
    try simp only [hSB]
    clear hR
    have hle7 : R.1 ≤ es.length ∨ True := Or.inr trivial
    clear hle7
    go_wp2_with (go_at_call 70; refine HFO.out.mono ?_; rintro e7 w7 ⟨rfl, hs7, -⟩; have HS7 := hid_ hs7; have a7 := hs7.c; have r7 := hs7.ex.cell r0w; have hl7 := hs7.le; clear hs7)
    all_goals
      go_ret
      refine ⟨⟨0, 0, HO1.out, fun _ => ho2, ?_⟩, HW3.out.trans HS7.out.ex⟩
      rw [HE.out, HRE.out]
      unfold ckE
      simp_all
end Go.Proofs.YtgdmlmhpineibaaGreat
namespace Go.Proofs.YtgdmlmhpineibaaGreat
set_option linter.unusedVariables false
set_option linter.unusedSimpArgs false
open Go.RowKit

theorem kpw_mod {p m : Nat} {low : Vc} (hp : 2 ≤ p) (hm : 1 ≤ m) (hF : IsF p m low) {z : Nat} (h1 : 1 ≤ z) (h2 : z < p ^ m) (e : Nat) : kpw p m low z (e % (p ^ m - 1)) = kpw p m low z e := by
  obtain ⟨x0, -, -, hg⟩ := hF
  obtain ⟨i, hi, rfl⟩ := hg.all hp hm h1 h2
  rw [kpw_kpw hp hm, kpw_kpw hp hm, ← hg.mod hp hm (i * (e % (p ^ m - 1))), ← hg.mod hp hm (i * e), Nat.mul_mod, Nat.mod_mod, ← Nat.mul_mod]
section
variable {p m : Nat} {ml : List Int} {mv : Value}
end
end Go.Proofs.YtgdmlmhpineibaaGreat
namespace Go.Proofs.YtgdmlmhpineibaaGreat
set_option linter.unusedVariables false
set_option linter.unusedSimpArgs false
open Go.RowKit

section
variable {p m : Nat} {ml : List Int} {mv : Value}
end
end Go.Proofs.YtgdmlmhpineibaaGreat
namespace Go.Proofs.YtgdmlmhpineibaaGreat
set_option linter.unusedVariables false
set_option linter.unusedSimpArgs false
open Go.RowKit

section
variable {p m : Int} {mv : Value}
end
end Go.Proofs.YtgdmlmhpineibaaGreat
namespace Go.Proofs.YtgdmlmhpineibaaGreat
set_option linter.unusedVariables false
set_option linter.unusedSimpArgs false
open Go.RowKit

/-- Rows and entries together. -/
def sizM (rows : List (List Int)) : Nat := rows.length + (rows.map List.length).sum
def fewM (cols : Int) (rows : List (List Int)) (lim : Int) : Bool := decide (cols ≤ 260 ∧ (sizM rows : Int) ≤ lim)
theorem sum_take_le : ∀ (l : List Nat) (i : Nat), (l.take i).sum ≤ l.sum
  | [], i => by simp
  | x :: l, 0 => by simp
  | x :: l, i + 1 => by have := sum_take_le l i; simp; omega
set_option maxRecDepth 100000 in
set_option maxHeartbeats 1000000 in
theorem rFewM_any (w : World) (cols : Int) (rows : List (List Int)) (v : Value) (hv : MSl w v rows) (lim : Int) (hl0 : 0 ≤ lim) (hl1 : lim ≤ 100000) :
    Calls Tryz.prog 101 #[.agg #[.int .i64 cols, v], .int .i64 lim] w fun r w' => r = .returned (.bool (fewM cols rows lim)) ∧ Ex w w' := by
  obtain ⟨d0, d1, e0⟩ := boxM2_facts w cols v
  obtain ⟨za, zc, rfl, z1, z2, z3⟩ := (hv.ex e0).open
  have Z3 := hid_ z3
  unfold maxLen at z2
  have HE := hid_ e0
  clear hv z3 e0
  obtain ⟨F, hF⟩ : ∃ F, fewM cols rows lim = F := ⟨_, rfl⟩
  have HF := hid_ (show F = decide (cols ≤ 260 ∧ (sizM rows : Int) ≤ lim) from hF.symm)
  rw [hF]
  clear hF
  by_cases h1 : 260 < cols
  · have hF : F = false := by rw [HF.out]; exact decide_eq_false (by omega)
    subst hF
    clear HF
    go_enter Tryz.func101, Tryz.ntmps101
    go_wp2_with fail
    go_ret
    exact ⟨rfl, HE.out⟩
  · have h1' : cols ≤ 260 := by omega
    clear h1
    by_cases h2 : lim < (rows.length : Int)
    · have hF : F = false := by rw [HF.out]; exact decide_eq_false (by unfold sizM; omega)
      subst hF
      clear HF
      go_enter Tryz.func101, Tryz.ntmps101
      go_wp2_with fail
      go_ret
      exact ⟨rfl, HE.out⟩
    · have h2' : (rows.length : Int) ≤ lim := by omega
      have b1 : decide (260 < cols) = false := by simp; omega
      have b2 : decide (lim < (rows.length : Int)) = false := by simp; omega
      clear h2
      go_enter Tryz.func101, Tryz.ntmps101
      go_wp2_with fail
      generalize w.alloc (.cells #[.int .i64 cols, .slice za rows.length zc] 113) = w1 at *
      go_loopw [5, 6] (fun l' i' wr => ∃ (i : Nat) (l : Int), i ≤ rows.length ∧ i' = .int .i64 i ∧ l' = .int .i64 l ∧ 0 ≤ l ∧ l ≤ 100000 ∧ Hid (l = lim - rows.length - (((rows.map List.length).take i).sum : Nat)) ∧ wr = w1) (fun _ i' _ => rows.length - (intOf i').toNat)
      case atStart => exact ⟨0, lim - rows.length, by omega, rfl, by go_num, by omega, by omega, hid_ (by simp), rfl⟩
      case round =>
        obtain ⟨i, l, hi, rfl, rfl, l1, l2, hl, rfl⟩ := hrel
        by_cases hlt : i < rows.length
        · obtain ⟨r, hr⟩ : ∃ r, rows[i]? = some r := ⟨_, List.getElem?_eq_getElem hlt⟩
          have HS := hid_ (show ((rows.map List.length).take (i + 1)).sum = ((rows.map List.length).take i).sum + r.length from by
            rw [List.take_add_one, List.getElem?_map, hr]; simp)
          have HT := hid_ (sum_take_le (rows.map List.length) (i + 1))
          obtain ⟨bb, o, rfl, hc⟩ := Z3.out (by omega)
          obtain ⟨u, c1, hu⟩ := hc i r hr
          obtain ⟨ua, uc, rfl, u1, u2, u3⟩ := hu.open
          unfold maxLen at u2
          clear hc hu u3 hr
          by_cases h3 : l < (r.length : Int)
          · have hF : F = false := by
              rw [HF.out]
              have s1 := hl.out
              have s2 := HS.out
              have s3 := HT.out
              exact decide_eq_false (by unfold sizM; omega)
            subst hF
            clear HF HS HT hl
            go_wp2_with fail
            go_ret
            exact ⟨rfl, HE.out⟩
          · have h3' : (r.length : Int) ≤ l := by omega
            have HL := hid_ (show l - r.length = lim - rows.length - (((rows.map List.length).take (i + 1)).sum : Nat) from by
              have s1 := hl.out
              have s2 := HS.out
              omega)
            clear h3 HS HT hl
            go_wp2_with fail
            go_roundw
            case rel => exact ⟨i + 1, _, by omega, by go_num, (by first | rfl | trivial), by omega, by omega, HL, (by first | rfl | trivial)⟩
            case measure => simp [intOf]; omega
        · obtain rfl : i = rows.length := by omega
          have hF : F = true := by
            rw [HF.out]
            have s1 := hl.out
            rw [List.take_of_length_le (by simp)] at s1
            exact decide_eq_true ⟨h1', by unfold sizM; omega⟩
          subst hF
          clear hl HF
          go_wp2_with fail
          go_ret
          exact ⟨rfl, HE.out⟩
end Go.Proofs.YtgdmlmhpineibaaGreat
namespace Go.Proofs.YtgdmlmhpineibaaGreat
set_option linter.unusedVariables false
set_option linter.unusedSimpArgs false
open Go.RowKit

section
variable {p m : Nat} {ml : List Int} {N : Nat}
end
end Go.Proofs.YtgdmlmhpineibaaGreat
namespace Go.Proofs.YtgdmlmhpineibaaGreat
set_option linter.unusedVariables false
set_option linter.unusedSimpArgs false
open Go.RowKit

section
variable {p m : Nat} {low : Vc}
theorem kpw_one_ (hp : 2 ≤ p) (hm : 1 ≤ m) {x : Nat} (hx : x < p ^ m) : kpw p m low x 1 = x := by
  show kmul p m low 1 x = x
  exact one_kmul hp hm hx
theorem kpw_mulx (hp : 2 ≤ p) (hm : 1 ≤ m) (x y : Nat) : ∀ e, kpw p m low (kmul p m low x y) e = kmul p m low (kpw p m low x e) (kpw p m low y e)
  | 0 => by
    show 1 = kmul p m low 1 1
    rw [one_kmul hp hm (one_lt_q hp hm)]
  | e + 1 => by
    show kmul p m low (kpw p m low (kmul p m low x y) e) (kmul p m low x y) = kmul p m low (kmul p m low (kpw p m low x e) x) (kmul p m low (kpw p m low y e) y)
    have h1 : 1 ≤ p := by omega
    rw [kpw_mulx hp hm x y e, kmul_assoc h1, ← kmul_assoc h1 (kpw p m low y e), kmul_comm (kpw p m low y e) x, kmul_assoc h1 x, ← kmul_assoc h1]
theorem kpw_q (hp : 2 ≤ p) (hm : 1 ≤ m) (hF : IsF p m low) {x : Nat} (hx : x < p ^ m) : kpw p m low x (p ^ m) = x := by
  have hq := one_lt_q hp hm
  by_cases h0 : x = 0
  · subst h0
    exact kpw_zero (by omega) _ (by omega)
  · have h := kpw_add (low := low) hp hm x (p ^ m - 1) 1
    rw [show p ^ m - 1 + 1 = p ^ m from by omega, ← kpw_mod hp hm hF (by omega) hx (p ^ m - 1), Nat.mod_self, kpw_one_ hp hm hx] at h
    rw [h]
    exact one_kmul hp hm hx
theorem frb_kpw (hp : 2 ≤ p) (hm : 1 ≤ m) {x : Nat} (hx : x < p ^ m) : ∀ k, frb p m low x k = kpw p m low x (p ^ k)
  | 0 => by rw [Nat.pow_zero, kpw_one_ hp hm hx]; rfl
  | k + 1 => by
    show kpw p m low (frb p m low x k) p = _
    rw [frb_kpw hp hm hx k, kpw_kpw hp hm, Nat.pow_succ]
theorem frb_add (x a : Nat) : ∀ b, frb p m low (frb p m low x a) b = frb p m low x (a + b)
  | 0 => rfl
  | b + 1 => by
    show kpw p m low (frb p m low (frb p m low x a) b) p = kpw p m low (frb p m low x (a + b)) p
    rw [frb_add x a b]
theorem frb_m (hp : 2 ≤ p) (hm : 1 ≤ m) (hF : IsF p m low) {x : Nat} (hx : x < p ^ m) : frb p m low x m = x := by
  rw [frb_kpw hp hm hx, kpw_q hp hm hF hx]
theorem frb_mod (hp : 2 ≤ p) (hm : 1 ≤ m) (hF : IsF p m low) {x : Nat} (hx : x < p ^ m) (k : Nat) : frb p m low x (k % m) = frb p m low x k := by
  have key : ∀ c r, frb p m low x (m * c + r) = frb p m low x r := fun c => by
    induction c with
    | zero => intro r; rw [Nat.mul_zero, Nat.zero_add]
    | succ c ih =>
      intro r
      rw [show m * (c + 1) + r = m + (m * c + r) from by rw [Nat.mul_succ]; omega, ← frb_add, frb_m hp hm hF hx, ih]
  have h := key (k / m) (k % m)
  rw [Nat.div_add_mod] at h
  exact h.symm
theorem frb_mul (hp : 2 ≤ p) (hm : 1 ≤ m) (x y : Nat) : ∀ k, frb p m low (kmul p m low x y) k = kmul p m low (frb p m low x k) (frb p m low y k)
  | 0 => rfl
  | k + 1 => by
    show kpw p m low (frb p m low (kmul p m low x y) k) p = _
    rw [frb_mul hp hm x y k, kpw_mulx hp hm]; rfl
theorem kpw_pos (hp : 2 ≤ p) (hm : 1 ≤ m) (hF : IsF p m low) {x : Nat} (h1 : 1 ≤ x) (hx : x < p ^ m) : ∀ e, 1 ≤ kpw p m low x e
  | 0 => Nat.le_refl _
  | e + 1 => hF.ne_zero hp hm (kpw_pos hp hm hF h1 hx e) (kpw_lt hp hm x e) h1 hx
theorem frb_pos (hp : 2 ≤ p) (hm : 1 ≤ m) (hF : IsF p m low) {x : Nat} (h1 : 1 ≤ x) (hx : x < p ^ m) (k : Nat) : 1 ≤ frb p m low x k := by
  rw [frb_kpw hp hm hx]; exact kpw_pos hp hm hF h1 hx _
theorem frb_zero (hp : 2 ≤ p) (hm : 1 ≤ m) (k : Nat) : frb p m low 0 k = 0 := by
  rw [frb_kpw hp hm (Nat.pow_pos (by omega))]; exact kpw_zero (by omega) _ (Nat.pow_pos (by omega))
end

/-- A valid map. -/
structure MonOK (p m : Nat) (ml pl sl : List Int) (fr N : Nat) : Prop where
  hp : 2 ≤ p
  hm : 1 ≤ m
  hF : IsF p m (lw ml)
  n1 : 1 ≤ N
  n2 : N ≤ 64
  pll : pl.length = N
  sll : sl.length = N
  inj : InjN N (piF pl)
  sc : ∀ i, i < N → ∃ z : Nat, sl.getD i 0 = z ∧ 1 ≤ z ∧ z < p ^ m
  frm : fr < m
theorem injN_of {pl : List Int} {N : Nat} (hl : pl.length = N) (hr : rngB pl N = true) (hd : dupB pl = false) : InjN N (piF pl) := by
  refine ⟨fun i hi => ?_, fun i j hi hj e => Classical.byContradiction fun hij => ?_⟩
  · have := rngB_at hr (i := i) (by omega)
    unfold piF; omega
  · have h1 := rngB_at hr (i := i) (by omega)
    have h2 := rngB_at hr (i := j) (by omega)
    have : dupB pl = true := dupB_iff.2 (by
      unfold piF at e
      rcases Nat.lt_or_gt_of_ne hij with h | h
      · exact ⟨j, i, h, by omega, by omega⟩
      · exact ⟨i, j, h, by omega, by omega⟩)
    rw [hd] at this; cases this
theorem monOK_of {p m : Int} {ml : List Int} {n : Int} {pl sl : List Int} {fr : Int} (h : monS p m ml n pl sl fr = 0) :
    ∃ (pn mn N fn : Nat), p = pn ∧ m = mn ∧ n = N ∧ fr = fn ∧ FSh pn mn ml ∧ chkS p m ml = 0 ∧ MonOK pn mn ml pl sl fn N := by
  obtain ⟨n0, n1, n2, n3, n4, n5, n6, n7, n8, n9⟩ := mon_ok h
  obtain ⟨pn, mn, rfl, rfl, hf, hpr, hF⟩ := (chk_iff _ _ _).1 n0
  obtain ⟨fn, rfl⟩ : ∃ fn : Nat, fr = fn := ⟨fr.toNat, by omega⟩
  obtain ⟨N, rfl⟩ : ∃ N : Nat, n = N := ⟨n.toNat, by omega⟩
  exact ⟨pn, mn, N, fn, rfl, rfl, rfl, rfl, hf, n0, hf.p2, hf.m1, hF, by omega, by omega, by omega, by omega, injN_of (by omega) n5 n8, fun i hi => fac_at (by simpa only [Int.toNat_natCast] using n9) (by omega), by omega⟩
theorem facS_of {q : Nat} {l : List Int} (h : ∀ i, i < l.length → ∃ z : Nat, l.getD i 0 = z ∧ 1 ≤ z ∧ z < q) : facS q l = 0 := by
  unfold facS
  have key : ∀ x ∈ l, ∃ z : Nat, x = z ∧ 1 ≤ z ∧ z < q := fun x hx => by
    obtain ⟨i, hi, rfl⟩ := List.getElem_of_mem hx
    have := h i hi
    rw [List.getD_eq_getElem?_getD, List.getElem?_eq_getElem hi] at this
    exact this
  rw [if_neg, if_neg]
  · intro hc
    rw [List.contains_iff_mem] at hc
    obtain ⟨z, h1, h2, _⟩ := key 0 hc
    omega
  · intro hc
    obtain ⟨x, hx, h1⟩ := List.any_eq_true.1 hc
    obtain ⟨z, rfl, h2, h3⟩ := key x hx
    unfold isB at h1
    simp at h1
    omega
theorem dupB_of {pl : List Int} {N : Nat} (hl : pl.length = N) (h0 : ∀ i, i < N → 0 ≤ pl.getD i 0) (h : InjN N (piF pl)) : dupB pl = false := by
  cases hd : dupB pl with
  | false => rfl
  | true =>
    obtain ⟨i, j, h1, h2, h3⟩ := dupB_iff.1 hd
    have := h.inj i j (by omega) (by omega) (by unfold piF; rw [h3])
    omega
theorem mon_mk {p m : Nat} {ml pl sl : List Int} {fr N : Nat} (hc : chkS p m ml = 0) (h : MonOK p m ml pl sl fr N) (h0 : ∀ i, i < N → 0 ≤ pl.getD i 0) : monS p m ml N pl sl fr = 0 := by
  have h1 := h.n1
  have h2 := h.n2
  have h3 := h.pll
  have h4 := h.sll
  have h5 := h.frm
  have hr : rngB pl N = true := rngB_of fun j hj => by
    have := h.inj.1 j (by omega)
    have := h0 j (by omega)
    unfold piF at *
    omega
  unfold monS
  rw [if_neg (by rw [hc]; simp), if_neg (by omega), if_neg (by omega), if_neg, if_neg]
  · exact facS_of fun i hi => by simpa only [Int.toNat_natCast] using h.sc i (by omega)
  · rw [dupB_of h3 h0 h.inj]; decide
  · rw [hr]
    rintro (h | h | h)
    · cases h
    · omega
    · omega
section
variable {p m : Nat} {ml pl sl : List Int} {fr N : Nat} {x : List Int}
/-- The entry of the image at the place of i. -/
theorem MonOK.img (h : MonOK p m ml pl sl fr N) {i : Nat} (hi : i < N) : imgF p m ml pl sl fr x N (piF pl i) = vF p m ml sl fr x i := plc_at h.inj _ N (Nat.le_refl _) i hi
theorem eil_getD' {N j : Nat} (h : j < N) (f : Nat → Int) : (il N f).getD j 0 = f j := by
  rw [List.getD_eq_getElem?_getD, il_get h]; rfl
/-- An entry of the image, as a number. -/
theorem MonOK.imgE (h : MonOK p m ml pl sl fr N) {j : Nat} (hj : j < N) : ∃ z : Nat, imgF p m ml pl sl fr x N j = z ∧ z < p ^ m := by
  obtain ⟨i, hi, rfl⟩ := h.inj.surj hj
  rw [h.img hi]
  exact ⟨_, rfl, kmul_lt (by have := h.hp; omega) _ _⟩
end
section
variable {p m : Nat} {ml pl sl ql tl : List Int} {fr fs N : Nat} {x : List Int}
theorem kinv_ok (hp : 2 ≤ p) (hm : 1 ≤ m) (hF : IsF p m (lw ml)) {s : Nat} (h1 : 1 ≤ s) (hq : s < p ^ m) : 1 ≤ kinv p m ml s ∧ kinv p m ml s < p ^ m ∧ kmul p m (lw ml) s (kinv p m ml s) = 1 := by
  obtain ⟨z, a, b, c⟩ := hF.inv hp hm h1 hq
  rw [kinv_eq hp hm hF hq h1 b c]
  exact ⟨a, b, c⟩
theorem img_ent (h : MonOK p m ml pl sl fr N) : ∀ i, i < N → ∃ z : Nat, (il N (imgF p m ml pl sl fr x N)).getD i 0 = z ∧ z < p ^ m := fun i hi => by
  rw [eil_getD' hi]; exact h.imgE hi
end
end Go.Proofs.YtgdmlmhpineibaaGreat
namespace Go.Proofs.YtgdmlmhpineibaaGreat
set_option linter.unusedVariables false
set_option linter.unusedSimpArgs false
open Go.RowKit

theorem lget_D {l : List Int} {i : Nat} (hi : i < l.length) : l[i]? = some (l.getD i 0) := by
  rw [List.getD_eq_getElem?_getD, List.getElem?_eq_getElem hi]; rfl
def zerB (l : List Int) : Bool := l.all fun x => x == 0
theorem zerB_iff {l : List Int} : zerB l = true ↔ ∀ j, j < l.length → l.getD j 0 = 0 := by
  unfold zerB
  rw [List.all_eq_true]
  constructor
  · intro h j hj
    have := h (l.getD j 0) (List.mem_of_getElem? (lget_D hj))
    simpa using this
  · intro h x hx
    obtain ⟨j, hj, rfl⟩ := List.getElem_of_mem hx
    have := h j hj
    rw [List.getD_eq_getElem?_getD, List.getElem?_eq_getElem hj] at this
    simpa using this
end Go.Proofs.YtgdmlmhpineibaaGreat
namespace Go.Proofs.YtgdmlmhpineibaaGreat
set_option linter.unusedVariables false
set_option linter.unusedSimpArgs false
open Go.RowKit

/-- A word less the first rows' parts. -/
def rst (p m : Nat) (ml : List Int) (a : Nat → Nat → Int) (pl : Nat → Nat) (f : Nat → Int) : Nat → Nat → Int
  | 0 => f
  | i + 1 => addF p m ml (rst p m ml a pl f i) (kneg p m (kin (p ^ m) (f (pl i)))) (a i)
end Go.Proofs.YtgdmlmhpineibaaGreat
