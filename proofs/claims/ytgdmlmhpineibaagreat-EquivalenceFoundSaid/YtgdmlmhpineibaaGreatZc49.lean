/- Walks of codewrightref04.Pow and codewrightref31.frob. -/
/- Walk of codewrightref31.image. -/
/- Walks of the reference's Entries (any field), List, Weight and Word. -/
/- Walk of codewrightref31.Inverse. -/
/- Walk of codewrightref31.Compose (printed by gen_cmp.py). -/
/- Walks of chapter 31's short, EquivalenceMaps and EquivalenceComposes. -/
/- The walk of codewrightref12.Few. -/
/- Walks of the law's few and of codewrightref31's Few, Extends and Small. -/
/- Plain: monomial maps compose, have inverses, keep weights. -/
/- The walk of codewrightref12.Check. -/
import Derived.Deep.RegionHeld3
import Derived.Deep.CutRange
import Derived.Test.YtgdmlmhpineibaaGreatZc09
import Derived.Test.YtgdmlmhpineibaaGreatZc22
import Derived.Test.YtgdmlmhpineibaaGreatZc25
import Derived.Test.YtgdmlmhpineibaaGreatZc26
import Derived.Test.YtgdmlmhpineibaaGreatZc27
import Derived.Test.YtgdmlmhpineibaaGreatZc28
import Derived.Test.YtgdmlmhpineibaaGreatZc29
import Derived.Test.YtgdmlmhpineibaaGreatZc30
import Derived.Test.YtgdmlmhpineibaaGreatZc36
import Derived.Test.YtgdmlmhpineibaaGreatZc44
import Derived.Test.YtgdmlmhpineibaaGreatZc45
import Derived.Test.YtgdmlmhpineibaaGreatZc46
import Derived.Test.YtgdmlmhpineibaaGreatZc48
namespace Go.Proofs.YtgdmlmhpineibaaGreat
set_option linter.unusedVariables false
set_option linter.unusedSimpArgs false
open Go.RowKit

section
variable {p m : Nat} {ml : List Int} {mv : Value}
end
end Go.Proofs.YtgdmlmhpineibaaGreat
namespace Go.Proofs.YtgdmlmhpineibaaGreat
set_option linter.unusedVariables false
set_option linter.unusedSimpArgs false
open Go.RowKit

section
variable {p m : Nat} {ml : List Int} {mv : Value}
end
end Go.Proofs.YtgdmlmhpineibaaGreat
namespace Go.Proofs.YtgdmlmhpineibaaGreat
set_option linter.unusedVariables false
set_option linter.unusedSimpArgs false
open Go.RowKit

section
variable {p m : Int} {mv : Value}
end
end Go.Proofs.YtgdmlmhpineibaaGreat
namespace Go.Proofs.YtgdmlmhpineibaaGreat
set_option linter.unusedVariables false
set_option linter.unusedSimpArgs false
open Go.RowKit

end Go.Proofs.YtgdmlmhpineibaaGreat
namespace Go.Proofs.YtgdmlmhpineibaaGreat
set_option linter.unusedVariables false
set_option linter.unusedSimpArgs false
open Go.RowKit

end Go.Proofs.YtgdmlmhpineibaaGreat
namespace Go.Proofs.YtgdmlmhpineibaaGreat
set_option linter.unusedVariables false
set_option linter.unusedSimpArgs false
open Go.RowKit

end Go.Proofs.YtgdmlmhpineibaaGreat
namespace Go.Proofs.YtgdmlmhpineibaaGreat
set_option linter.unusedVariables false
set_option linter.unusedSimpArgs false
open Go.RowKit

set_option maxRecDepth 100000 in
set_option maxHeartbeats 1000000 in
theorem rFew12_any (w : World) (p m : Int) (mv : Value) (n : Int) (rows : List (List Int)) (v : Value) (hv : MSl w v rows) (lim : Int) (hl0 : 0 ≤ lim) (hl1 : lim ≤ 100000) :
    Calls Tryz.prog 62 #[.agg #[.int .i64 p, .int .i64 m, mv, .int .i64 n, v], .int .i64 lim] w fun r w' => r = .returned (.bool (fewM 0 rows lim)) ∧ Ex w w' := by
  obtain ⟨a0, a1, a2, a3, a4, ea⟩ := boxC_facts w p m mv n v
  have HFW := hid_ (fun (w' : World) (h : Ex w w') => rFewM_any w' 0 rows v (hv.ex h) lim hl0 hl1)
  obtain ⟨za, zc, rfl, -, z2, -⟩ := hv.open
  have HE := hid_ ea
  clear hv ea z2
  obtain ⟨F, hF⟩ : ∃ F, fewM 0 rows lim = F := ⟨_, rfl⟩
  rw [hF] at HFW ⊢
  clear hF
  go_enter Tryz.func62, Tryz.ntmps62
  go_wp2_with fail
  generalize w.alloc (.cells #[.int .i64 p, .int .i64 m, mv, .int .i64 n, .slice za rows.length zc] 47) = w1 at *
  refine (HFW.out w1 HE.out).mono ?_
  rintro e w2 ⟨rfl, hx⟩
  have HX := hid_ (HE.out.trans hx)
  clear hx
  go_wp2_with fail
  go_ret
  exact ⟨rfl, HX.out⟩
end Go.Proofs.YtgdmlmhpineibaaGreat
namespace Go.Proofs.YtgdmlmhpineibaaGreat
set_option linter.unusedVariables false
set_option linter.unusedSimpArgs false
open Go.RowKit

def FewC (c : CdV) : Prop := fewM 0 c.rows 80 = true ∧ (c.n ≤ 8 ∨ 64 < c.n) ∧ ordS c.p c.m ≤ 16
set_option maxRecDepth 100000 in
set_option maxHeartbeats 4000000 in
theorem few31_any (w : World) (c : CdV) (m1 v1 : Value) (hc : c.at w m1 v1) :
    Calls Tryz.prog 27 #[c.arg m1 v1] w fun r w' => BolR (FewC c) r ∧ Ex w w' := by
  obtain ⟨c0, c1, c2, c3, c4⟩ := boxC5 w c m1 v1
  have HX := hid_ (e_al w (c.obj m1 v1))
  have HFW := hid_ (fun (w' : World) (h : Ex w w') => rFew12_any w' c.p c.m m1 c.n c.rows v1 (hc.ex h).g 80 (by decide) (by decide))
  have HOR := hid_ (fun w' => rOrder_any c.p c.m m1 w')
  obtain ⟨x1, y1, rfl, -, z1, -⟩ := hc.g.open
  obtain ⟨x3, y3, rfl, -, z3, -⟩ := hc.m.open
  obtain ⟨p, m, ml, n, rows⟩ := c
  have HSM := hid_ (show FewC ⟨p, m, ml, n, rows⟩ ↔ fewM 0 rows 80 = true ∧ (n ≤ 8 ∨ 64 < n) ∧ ordS p m ≤ 16 from Iff.rfl)
  obtain ⟨B, hB⟩ : ∃ B, w.heap.size = B := ⟨_, rfl⟩
  rw [hB] at c0 c1 c2 c3 c4
  dsimp only [CdV.arg, CdV.obj] at *
  obtain ⟨P, hP⟩ : ∃ P, FewC ⟨p, m, ml, n, rows⟩ = P := ⟨_, rfl⟩
  rw [hP] at HSM ⊢
  obtain ⟨F, hF⟩ : ∃ F, fewM 0 rows 80 = F := ⟨_, rfl⟩
  rw [hF] at HFW HSM
  obtain ⟨Q, hQ⟩ : ∃ Q, ordS p m = Q := ⟨_, rfl⟩
  rw [hQ] at HOR HSM
  clear hc hF hP hQ z1 z3
  go_enter Tryz.func27, Tryz.ntmps27
  go_upto_region 1 with fail
  try simp only [hB]
  clear hB
  generalize w.alloc (.cells #[.int .i64 p, .int .i64 m, .slice x3 ml.length y3, .int .i64 n, .slice x1 rows.length y1] 47) = w1 at *
  have HALL := hid_ (fun w' (h : Ex w1 w') => (⟨h.cell c0, h.cell c1, h.cell c2, h.cell c3, h.cell c4⟩ : _ ∧ _ ∧ _ ∧ _ ∧ _))
  go_wp2_with fail
  refine (HFW.out _ HX.out).mono ?_
  rintro e w2 ⟨rfl, hx2⟩
  have HX2 := hid_ hx2
  clear hx2 c0 c1 c2 c3 c4
  obtain ⟨c0, c1, c2, c3, c4⟩ := HALL.out w2 HX2.out
  cases F with
  | false =>
    have HN := hid_ (show ¬ P from fun h => by cases (HSM.out.1 h).1)
    go_wp2_with fail
    go_ret
    exact ⟨bolR_no HN.out, HX.out.trans HX2.out⟩
  | true =>
    by_cases h1 : n ≤ 8
    · have k1 : decide (n ≤ 8) = true := decide_eq_true h1
      have H1 := hid_ h1
      clear h1
      go_wp2_with fail
      refine (HOR.out _).mono ?_
      rintro e w3 ⟨rfl, hx3⟩
      have HX3 := hid_ (HX2.out.trans hx3)
      clear hx3 c0 c1 c2 c3 c4
      by_cases h2 : Q ≤ 16
      · have k2 : decide (Q ≤ 16) = true := decide_eq_true h2
        have HN := hid_ (show P from HSM.out.2 ⟨by first | rfl | trivial, .inl H1.out, h2⟩)
        clear h2
        go_wp2_with fail
        go_ret
        exact ⟨bolR_yes HN.out, HX.out.trans HX3.out⟩
      · have k2 : decide (Q ≤ 16) = false := decide_eq_false h2
        have HN := hid_ (show ¬ P from fun h => h2 (HSM.out.1 h).2.2)
        clear h2
        go_wp2_with fail
        go_ret
        exact ⟨bolR_no HN.out, HX.out.trans HX3.out⟩
    · have k1 : decide (n ≤ 8) = false := decide_eq_false h1
      have H1 := hid_ h1
      clear h1
      by_cases h3 : 64 < n
      · have k3 : decide (64 < n) = true := decide_eq_true h3
        have H3 := hid_ h3
        clear h3
        go_wp2_with fail
        refine (HOR.out _).mono ?_
        rintro e w3 ⟨rfl, hx3⟩
        have HX3 := hid_ (HX2.out.trans hx3)
        clear hx3 c0 c1 c2 c3 c4
        by_cases h2 : Q ≤ 16
        · have k2 : decide (Q ≤ 16) = true := decide_eq_true h2
          have HN := hid_ (show P from HSM.out.2 ⟨by first | rfl | trivial, .inr H3.out, h2⟩)
          clear h2
          go_wp2_with fail
          go_ret
          exact ⟨bolR_yes HN.out, HX.out.trans HX3.out⟩
        · have k2 : decide (Q ≤ 16) = false := decide_eq_false h2
          have HN := hid_ (show ¬ P from fun h => h2 (HSM.out.1 h).2.2)
          clear h2
          go_wp2_with fail
          go_ret
          exact ⟨bolR_no HN.out, HX.out.trans HX3.out⟩
      · have k3 : decide (64 < n) = false := decide_eq_false h3
        have HN := hid_ (show ¬ P from fun h => by rcases (HSM.out.1 h).2.1 with h | h; exact H1.out h; exact h3 h)
        clear h3
        go_wp2_with fail
        go_ret
        exact ⟨bolR_no HN.out, HX.out.trans HX2.out⟩
def ExtP (pl sl : List Int) (fr : Int) (tl xl : List Int) : Prop :=
  fr = 0 ∧ tl.length ≤ pl.length ∧ tl.length ≤ sl.length ∧ tl.length = xl.length ∧ ∀ i, i < tl.length → pl.getD i 0 = tl.getD i 0 ∧ sl.getD i 0 = xl.getD i 0
set_option maxRecDepth 100000 in
set_option maxHeartbeats 4000000 in
theorem rExtends_any (w : World) (pl sl tl xl : List Int) (pv sv tv xv : Value) (fr : Int) (hp : ISl w pv pl) (hs : ISl w sv sl) (ht : ISl w tv tl) (hx : ISl w xv xl) :
    Calls Tryz.prog 37 #[.agg #[pv, sv, .int .i64 fr], .agg #[tv, xv]] w fun r w' => BolR (ExtP pl sl fr tl xl) r ∧ Ex w w' := by
  obtain ⟨a0, a1, a2, ea⟩ := boxMo_facts w pv sv fr
  obtain ⟨b0, b1, eb, -⟩ := boxP_facts (w.alloc (.cells #[pv, sv, .int .i64 fr] 26)) tv xv
  have asz : (w.alloc (.cells #[pv, sv, .int .i64 fr] 26)).heap.size = w.heap.size + 1 := by simp
  rw [asz] at b0 b1
  replace a0 := eb.cell a0
  replace a1 := eb.cell a1
  replace a2 := eb.cell a2
  have HX := hid_ (ea.trans eb)
  obtain ⟨pa, pc, rfl, -, p2, p3⟩ := (hp.ex HX.out).open
  obtain ⟨sa, sc, rfl, -, s2, s3⟩ := (hs.ex HX.out).open
  obtain ⟨ta, tc, rfl, t1, t2, t3⟩ := (ht.ex HX.out).open
  obtain ⟨xa, xc, rfl, -, x2, x3⟩ := (hx.ex HX.out).open
  unfold maxLen at p2 s2 t2 x2
  have P3 := hid_ p3
  have S3 := hid_ s3
  have T3 := hid_ t3
  have X3 := hid_ x3
  obtain ⟨B, hB⟩ : ∃ B, w.heap.size = B := ⟨_, rfl⟩
  rw [hB] at a0 a1 a2 b0 b1
  obtain ⟨P, hP⟩ : ∃ P, ExtP pl sl fr tl xl = P := ⟨_, rfl⟩
  have HP := hid_ (show P ↔ fr = 0 ∧ tl.length ≤ pl.length ∧ tl.length ≤ sl.length ∧ tl.length = xl.length ∧ ∀ i, i < tl.length → pl.getD i 0 = tl.getD i 0 ∧ sl.getD i 0 = xl.getD i 0 from by rw [← hP]; exact Iff.rfl)
  rw [hP]
  clear hp hs ht hx ea eb asz p3 s3 t3 x3 hP
  go_enter Tryz.func37, Tryz.ntmps37
  go_upto_region 1 with fail
  try simp only [hB]
  clear hB
  generalize (w.alloc (.cells #[.slice pa pl.length pc, .slice sa sl.length sc, .int .i64 fr] 26)).alloc (.cells #[.slice ta tl.length tc, .slice xa xl.length xc] 49) = w1 at *
  have HALL := hid_ (fun w' (h : Ex w1 w') => (⟨h.cell a0, h.cell a1, h.cell a2, h.cell b0, h.cell b1⟩ : _ ∧ _ ∧ _ ∧ _ ∧ _))
  by_cases h1 : fr = 0
  rotate_left
  · have k1 : (fr != 0) = true := by simpa using h1
    have HN := hid_ (show ¬ P from fun h => h1 (HP.out.1 h).1)
    clear h1
    go_wp2_with fail
    go_ret
    exact ⟨bolR_no HN.out, HX.out⟩
  have k1 : (fr != 0) = false := by simpa using h1
  have H1 := hid_ h1
  clear h1
  by_cases h2 : pl.length < tl.length
  · have k2 : decide ((pl.length : Int) < (tl.length : Int)) = true := by simp; omega
    have j2 : (pl.length : Int) < (tl.length : Int) := by omega
    have HN := hid_ (show ¬ P from fun h => by have := (HP.out.1 h).2.1; omega)
    clear h2
    go_wp2_with fail
    go_ret
    exact ⟨bolR_no HN.out, HX.out⟩
  have k2 : decide ((pl.length : Int) < (tl.length : Int)) = false := by simp; omega
  have j2 : ¬ (pl.length : Int) < (tl.length : Int) := by omega
  have H2 := hid_ (show tl.length ≤ pl.length from by omega)
  clear h2
  by_cases h3 : sl.length < tl.length
  · have k3 : decide ((sl.length : Int) < (tl.length : Int)) = true := by simp; omega
    have j3 : (sl.length : Int) < (tl.length : Int) := by omega
    have HN := hid_ (show ¬ P from fun h => by have := (HP.out.1 h).2.2.1; omega)
    clear h3
    go_wp2_with fail
    go_ret
    exact ⟨bolR_no HN.out, HX.out⟩
  have k3 : decide ((sl.length : Int) < (tl.length : Int)) = false := by simp; omega
  have j3 : ¬ (sl.length : Int) < (tl.length : Int) := by omega
  have H3 := hid_ (show tl.length ≤ sl.length from by omega)
  clear h3
  by_cases h4 : tl.length = xl.length
  rotate_left
  · have k4 : ((tl.length : Int) != (xl.length : Int)) = true := by simp; omega
    have HN := hid_ (show ¬ P from fun h => h4 (HP.out.1 h).2.2.2.1)
    clear h4
    go_wp2_with fail
    go_ret
    exact ⟨bolR_no HN.out, HX.out⟩
  have k4 : ((tl.length : Int) != (xl.length : Int)) = false := by simp; omega
  have H4 := hid_ h4
  clear h4
  go_wp2_with fail
  clear a0 a1 a2 b0 b1
  go_loopw [5] (fun i' wr => ∃ (i n : Nat), i ≤ tl.length ∧ i' = .int .i64 i ∧ wr = w1.drewN n ∧ Hid (∀ j, j < i → pl.getD j 0 = tl.getD j 0 ∧ sl.getD j 0 = xl.getD j 0)) (fun i' _ => tl.length - (intOf i').toNat)
  case atStart => exact ⟨0, 0, by omega, rfl, rfl, hid_ (fun j hj => by omega)⟩
  case round =>
    obtain ⟨i, n, hi, rfl, rfl, hall⟩ := hrel
    obtain ⟨a0, a1, a2, b0, b1⟩ := HALL.out (w1.drewN n) ((Ex.refl w1).drewN n)
    by_cases hlt : i < tl.length
    · have hip : i < pl.length := by have := H2.out; omega
      have his : i < sl.length := by have := H3.out; omega
      have hix : i < xl.length := by have := H4.out; omega
      obtain ⟨pb, po, rfl, hpc⟩ := P3.out (by omega)
      obtain ⟨sb, so, rfl, hsc⟩ := S3.out (by omega)
      obtain ⟨tb, to_, rfl, htc⟩ := T3.out (by omega)
      obtain ⟨xb, xo, rfl, hxc⟩ := X3.out (by omega)
      have c1 := ((Ex.refl w1).drewN n).cell (hpc i _ (get_getD hip))
      have c2 := ((Ex.refl w1).drewN n).cell (hsc i _ (get_getD his))
      have c3 := ((Ex.refl w1).drewN n).cell (htc i _ (get_getD hlt))
      have c4 := ((Ex.refl w1).drewN n).cell (hxc i _ (get_getD hix))
      have i1 : (0 : Int) ≤ (i : Int) := by omega
      have i2 : (i : Int) < (tl.length : Int) := by omega
      have i3 : (i : Int) < (pl.length : Int) := by omega
      have i4 : (i : Int) < (sl.length : Int) := by omega
      have i5 : (i : Int) < (xl.length : Int) := by omega
      obtain ⟨W, hW⟩ : ∃ W, w1.drewN n = W := ⟨_, rfl⟩
      rw [hW] at c1 c2 c3 c4 a0 a1 a2 b0 b1 ⊢
      have HWE := hid_ (show Ex w1 W from by rw [← hW]; exact (Ex.refl w1).drewN n)
      have HWN := hid_ hW
      have HI := hid_ (show i < tl.length from hlt)
      clear hW hpc hsc htc hxc
      obtain ⟨y1, hy1⟩ : ∃ y, pl.getD i 0 = y := ⟨_, rfl⟩
      obtain ⟨y2, hy2⟩ : ∃ y, sl.getD i 0 = y := ⟨_, rfl⟩
      obtain ⟨y3, hy3⟩ : ∃ y, tl.getD i 0 = y := ⟨_, rfl⟩
      obtain ⟨y4, hy4⟩ : ∃ y, xl.getD i 0 = y := ⟨_, rfl⟩
      rw [hy1] at c1
      rw [hy2] at c2
      rw [hy3] at c3
      rw [hy4] at c4
      have HY := hid_ (show pl.getD i 0 = y1 ∧ sl.getD i 0 = y2 ∧ tl.getD i 0 = y3 ∧ xl.getD i 0 = y4 from ⟨hy1, hy2, hy3, hy4⟩)
      clear hy1 hy2 hy3 hy4
      by_cases e1 : y1 = y3
      rotate_left
      · have k5 : (y1 != y3) = true := by simpa using e1
        have HN := hid_ (show ¬ P from fun h => e1 (by have := ((HP.out.1 h).2.2.2.2 i HI.out).1; rw [HY.out.1, HY.out.2.2.1] at this; exact this))
        clear e1
        go_wp2_with fail
        go_quiet (fail)
        go_wp2_with fail
        go_ret
        exact ⟨bolR_no HN.out, HX.out.trans (HWE.out.drewN _)⟩
      have k5 : (y1 != y3) = false := by simpa using e1
      by_cases e2 : y2 = y4
      rotate_left
      · have k6 : (y2 != y4) = true := by simpa using e2
        have HN := hid_ (show ¬ P from fun h => e2 (by have := ((HP.out.1 h).2.2.2.2 i HI.out).2; rw [HY.out.2.1, HY.out.2.2.2] at this; exact this))
        clear e2
        go_wp2_with fail
        go_quiet (fail)
        go_wp2_with fail
        go_ret
        exact ⟨bolR_no HN.out, HX.out.trans (HWE.out.drewN _)⟩
      have k6 : (y2 != y4) = false := by simpa using e2
      have HA := hid_ (show ∀ j, j < i + 1 → pl.getD j 0 = tl.getD j 0 ∧ sl.getD j 0 = xl.getD j 0 from fun j hj => by
        by_cases e : j = i
        · rw [e, HY.out.1, HY.out.2.1, HY.out.2.2.1, HY.out.2.2.2]; exact ⟨e1, e2⟩
        · exact hall.out j (by omega))
      clear e1 e2
      go_wp2_with fail
      go_quiet (fail)
      go_wp2_with fail
      go_roundw
      case rel => exact ⟨i + 1, _, by omega, by go_num, by rw [← HWN.out, World.drewN_drewN], HA⟩
      case measure => simp [intOf]; omega
    · have HN := hid_ (show P from HP.out.2 ⟨H1.out, H2.out, H3.out, H4.out, fun j hj => hall.out j (by omega)⟩)
      obtain rfl : i = tl.length := by omega
      go_wp2_with fail
      go_ret
      exact ⟨bolR_yes HN.out, HX.out.trans ((Ex.refl w1).drewN _)⟩
end Go.Proofs.YtgdmlmhpineibaaGreat
namespace Go.Proofs.YtgdmlmhpineibaaGreat
set_option linter.unusedVariables false
set_option linter.unusedSimpArgs false
open Go.RowKit

section
variable {p m : Nat} {low : Vc}
end

/-- A valid map. -/
structure MonOK (p m : Nat) (ml pl sl : List Int) (fr N : Nat) : Prop where
  hp : 2 ≤ p
  hm : 1 ≤ m
  hF : IsF p m (lw ml)
  n1 : 1 ≤ N
  n2 : N ≤ 64
  pll : pl.length = N
  sll : sl.length = N
  inj : InjN N (piF pl)
  sc : ∀ i, i < N → ∃ z : Nat, sl.getD i 0 = z ∧ 1 ≤ z ∧ z < p ^ m
  frm : fr < m
theorem injN_of {pl : List Int} {N : Nat} (hl : pl.length = N) (hr : rngB pl N = true) (hd : dupB pl = false) : InjN N (piF pl) := by
  refine ⟨fun i hi => ?_, fun i j hi hj e => Classical.byContradiction fun hij => ?_⟩
  · have := rngB_at hr (i := i) (by omega)
    unfold piF; omega
  · have h1 := rngB_at hr (i := i) (by omega)
    have h2 := rngB_at hr (i := j) (by omega)
    have : dupB pl = true := dupB_iff.2 (by
      unfold piF at e
      rcases Nat.lt_or_gt_of_ne hij with h | h
      · exact ⟨j, i, h, by omega, by omega⟩
      · exact ⟨i, j, h, by omega, by omega⟩)
    rw [hd] at this; cases this
theorem monOK_of {p m : Int} {ml : List Int} {n : Int} {pl sl : List Int} {fr : Int} (h : monS p m ml n pl sl fr = 0) :
    ∃ (pn mn N fn : Nat), p = pn ∧ m = mn ∧ n = N ∧ fr = fn ∧ FSh pn mn ml ∧ chkS p m ml = 0 ∧ MonOK pn mn ml pl sl fn N := by
  obtain ⟨n0, n1, n2, n3, n4, n5, n6, n7, n8, n9⟩ := mon_ok h
  obtain ⟨pn, mn, rfl, rfl, hf, hpr, hF⟩ := (chk_iff _ _ _).1 n0
  obtain ⟨fn, rfl⟩ : ∃ fn : Nat, fr = fn := ⟨fr.toNat, by omega⟩
  obtain ⟨N, rfl⟩ : ∃ N : Nat, n = N := ⟨n.toNat, by omega⟩
  exact ⟨pn, mn, N, fn, rfl, rfl, rfl, rfl, hf, n0, hf.p2, hf.m1, hF, by omega, by omega, by omega, by omega, injN_of (by omega) n5 n8, fun i hi => fac_at (by simpa only [Int.toNat_natCast] using n9) (by omega), by omega⟩
theorem facS_of {q : Nat} {l : List Int} (h : ∀ i, i < l.length → ∃ z : Nat, l.getD i 0 = z ∧ 1 ≤ z ∧ z < q) : facS q l = 0 := by
  unfold facS
  have key : ∀ x ∈ l, ∃ z : Nat, x = z ∧ 1 ≤ z ∧ z < q := fun x hx => by
    obtain ⟨i, hi, rfl⟩ := List.getElem_of_mem hx
    have := h i hi
    rw [List.getD_eq_getElem?_getD, List.getElem?_eq_getElem hi] at this
    exact this
  rw [if_neg, if_neg]
  · intro hc
    rw [List.contains_iff_mem] at hc
    obtain ⟨z, h1, h2, _⟩ := key 0 hc
    omega
  · intro hc
    obtain ⟨x, hx, h1⟩ := List.any_eq_true.1 hc
    obtain ⟨z, rfl, h2, h3⟩ := key x hx
    unfold isB at h1
    simp at h1
    omega
theorem dupB_of {pl : List Int} {N : Nat} (hl : pl.length = N) (h0 : ∀ i, i < N → 0 ≤ pl.getD i 0) (h : InjN N (piF pl)) : dupB pl = false := by
  cases hd : dupB pl with
  | false => rfl
  | true =>
    obtain ⟨i, j, h1, h2, h3⟩ := dupB_iff.1 hd
    have := h.inj i j (by omega) (by omega) (by unfold piF; rw [h3])
    omega
theorem mon_mk {p m : Nat} {ml pl sl : List Int} {fr N : Nat} (hc : chkS p m ml = 0) (h : MonOK p m ml pl sl fr N) (h0 : ∀ i, i < N → 0 ≤ pl.getD i 0) : monS p m ml N pl sl fr = 0 := by
  have h1 := h.n1
  have h2 := h.n2
  have h3 := h.pll
  have h4 := h.sll
  have h5 := h.frm
  have hr : rngB pl N = true := rngB_of fun j hj => by
    have := h.inj.1 j (by omega)
    have := h0 j (by omega)
    unfold piF at *
    omega
  unfold monS
  rw [if_neg (by rw [hc]; simp), if_neg (by omega), if_neg (by omega), if_neg, if_neg]
  · exact facS_of fun i hi => by simpa only [Int.toNat_natCast] using h.sc i (by omega)
  · rw [dupB_of h3 h0 h.inj]; decide
  · rw [hr]
    rintro (h | h | h)
    · cases h
    · omega
    · omega
section
variable {p m : Nat} {ml pl sl : List Int} {fr N : Nat} {x : List Int}
/-- The entry of the image at the place of i. -/
theorem MonOK.img (h : MonOK p m ml pl sl fr N) {i : Nat} (hi : i < N) : imgF p m ml pl sl fr x N (piF pl i) = vF p m ml sl fr x i := plc_at h.inj _ N (Nat.le_refl _) i hi
theorem eil_getD' {N j : Nat} (h : j < N) (f : Nat → Int) : (il N f).getD j 0 = f j := by
  rw [List.getD_eq_getElem?_getD, il_get h]; rfl
/-- An entry of the image, as a number. -/
theorem MonOK.imgE (h : MonOK p m ml pl sl fr N) {j : Nat} (hj : j < N) : ∃ z : Nat, imgF p m ml pl sl fr x N j = z ∧ z < p ^ m := by
  obtain ⟨i, hi, rfl⟩ := h.inj.surj hj
  rw [h.img hi]
  exact ⟨_, rfl, kmul_lt (by have := h.hp; omega) _ _⟩
end
section
variable {p m : Nat} {ml pl sl ql tl : List Int} {fr fs N : Nat} {x : List Int}
theorem img_ent (h : MonOK p m ml pl sl fr N) : ∀ i, i < N → ∃ z : Nat, (il N (imgF p m ml pl sl fr x N)).getD i 0 = z ∧ z < p ^ m := fun i hi => by
  rw [eil_getD' hi]; exact h.imgE hi
end
end Go.Proofs.YtgdmlmhpineibaaGreat
namespace Go.Proofs.YtgdmlmhpineibaaGreat
set_option linter.unusedVariables false
set_option linter.unusedSimpArgs false
open Go.RowKit

set_option maxRecDepth 100000 in
set_option maxHeartbeats 4000000 in
theorem rChk12_any (w : World) (p m : Int) (ml : List Int) (mv : Value) (hmv : ISl w mv ml) (n : Int) (rows : List (List Int)) (v : Value) (hv : MSl w v rows) :
    Calls Tryz.prog 40 #[.agg #[.int .i64 p, .int .i64 m, mv, .int .i64 n, v]] w fun r w' => (∃ e : Int, r = .returned (.int .i64 e) ∧ CodO p m ml n rows e) ∧ Ex w w' := by
  obtain ⟨a0, a1, a2, a3, a4, ea⟩ := boxC_facts w p m mv n v
  have HFC := hid_ (fun (w' : World) (h : Ex w w') => rCheck_any p m ml mv w' (hmv.ex h))
  have HSC := hid_ (fun (w' : World) (h : Ex w w') => rChk10_any p m ml mv w' (hmv.ex h) n rows v (hv.ex h))
  obtain ⟨za, zc, rfl, -, z2, -⟩ := hv.open
  unfold maxLen at z2
  obtain ⟨ma, mc, rfl, -, m2, -⟩ := hmv.open
  unfold maxLen at m2
  have HE := hid_ ea
  obtain ⟨F, hF⟩ : ∃ F, chkS p m ml = F := ⟨_, rfl⟩
  have hF1 : F = 0 ∨ F = 1 := by
    rw [← hF]; unfold chkS; split <;> omega
  have HCO := hid_ (show ∀ e, ((F ≠ 0 ∧ e = 1) ∨ (F = 0 ∧ lenE n ≠ 0 ∧ e = lenE n) ∨ (F = 0 ∧ lenE n = 0 ∧ SpcO p m ml n rows e)) → CodO p m ml n rows e from fun e h => by unfold CodO; rw [hF]; exact h)
  rw [hF] at HFC
  clear hmv hv ea hF
  go_enter Tryz.func40, Tryz.ntmps40
  go_wp2_with fail
  obtain ⟨xb, hxb⟩ : ∃ xb, w.heap.size = xb := ⟨_, rfl⟩
  rw [hxb] at a0 a1 a2 a3 a4
  try simp only [hxb]
  clear hxb
  generalize w.alloc (.cells #[.int .i64 p, .int .i64 m, .slice ma ml.length mc, .int .i64 n, .slice za rows.length zc] 47) = w1 at *
  refine (HFC.out w1 HE.out).mono ?_
  rintro e w2 ⟨rfl, hx2⟩
  have A0 := hid_ (hx2.cell a0)
  have A1 := hid_ (hx2.cell a1)
  have A2 := hid_ (hx2.cell a2)
  have A3 := hid_ (hx2.cell a3)
  have A4 := hid_ (hx2.cell a4)
  have HX2 := hid_ (HE.out.trans hx2)
  clear a0 a1 a2 a3 a4 hx2 HFC HE
  rcases hF1 with h1 | h1
  · subst h1
    have a3 := A3.out
    by_cases h2 : n < 1
    · have HR := hid_ (HCO.out 4 (.inr (.inl ⟨rfl, by unfold lenE; rw [if_pos (.inl h2)]; decide, by unfold lenE; rw [if_pos (.inl h2)]⟩)))
      clear HSC HCO
      go_wp2_with fail
      go_ret
      exact ⟨⟨_, rfl, HR.out⟩, HX2.out⟩
    · by_cases h3 : 64 < n
      · have HR := hid_ (HCO.out 4 (.inr (.inl ⟨rfl, by unfold lenE; rw [if_pos (.inr h3)]; decide, by unfold lenE; rw [if_pos (.inr h3)]⟩)))
        clear HSC HCO
        have b1 : decide (n < 1) = false := by simp; omega
        go_wp2_with fail
        go_ret
        exact ⟨⟨_, rfl, HR.out⟩, HX2.out⟩
      · have HCO2 := hid_ (fun e h => HCO.out e (.inr (.inr ⟨rfl, by unfold lenE; rw [if_neg (by omega)], h⟩)))
        have b1 : decide (n < 1) = false := by simp; omega
        have b2 : decide (64 < n) = false := by simp; omega
        have a0 := A0.out
        have a1 := A1.out
        have a2 := A2.out
        have a4 := A4.out
        clear HCO
        go_wp2_with fail
        refine (HSC.out w2 HX2.out).mono ?_
        rintro e w3 ⟨⟨e, rfl, he⟩, hx3⟩
        have HR := hid_ (HCO2.out e he)
        have HX3 := hid_ (HX2.out.trans hx3)
        clear he hx3
        go_wp2_with fail
        go_ret
        exact ⟨⟨_, rfl, HR.out⟩, HX3.out⟩
  · subst h1
    have HR := hid_ (HCO.out 1 (.inl ⟨by decide, rfl⟩))
    clear HSC HCO
    go_wp2_with fail
    go_ret
    exact ⟨⟨_, rfl, HR.out⟩, HX2.out⟩
end Go.Proofs.YtgdmlmhpineibaaGreat
