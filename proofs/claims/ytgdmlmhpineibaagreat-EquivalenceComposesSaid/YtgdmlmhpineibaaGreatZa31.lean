/- Walk of code.New (columns >= 1). -/
/- Walk of codewrightref31.image. -/
import Derived.Deep.RegionHeld3
import Derived.Test.YtgdmlmhpineibaaGreatZa25
import Derived.Test.YtgdmlmhpineibaaGreatZa30
namespace Go.Proofs.YtgdmlmhpineibaaGreat
set_option linter.unusedVariables false
set_option linter.unusedSimpArgs false
open Go.RowKit

def newE (p m : Int) (ml : List Int) (cols : Int) (rows : List (List Int)) : Int := if canE p m ml cols rows ≠ 0 then canE p m ml cols rows else lenE cols
/-- What code.New hands back. -/
def CNewR (p m : Int) (ml : List Int) (cols : Int) (rows : List (List Int)) (b0 : Nat) (r : Ending) (w' : World) : Prop :=
  (newE p m ml cols rows ≠ 0 ∧ r = .returned (.tuple #[.agg #[.int .i64 0, .int .i64 0, .slice none 0 0, .int .i64 0, .slice none 0 0], .int .i64 (newE p m ml cols rows)])) ∨
  (newE p m ml cols rows = 0 ∧ ∃ (pn mn N : Nat) (piv : List Nat) (a' : Nat → Nat → Int) (rv v' : Value), p = pn ∧ m = mn ∧ cols = N ∧ FldB p m ml ∧ mchkS (pn ^ mn) N rows = 0 ∧ r = .returned (.tuple #[.agg #[.int .i64 p, .int .i64 m, v', .int .i64 N, rv], .int .i64 0]) ∧ ElO pn mn ml N rows.length (rowsF rows) a' piv ∧ ISl w' v' ml ∧ MSl w' rv (rowsL N piv.length a') ∧ (∀ B, v'.ownBlock = some B → b0 ≤ B) ∧ ∃ g blk cap base, b0 ≤ base ∧ rv = .slice (some ⟨g, 0, none⟩) piv.length piv.length ∧ EM w' base g rows.length N blk cap a' [] ∧ piv.length ≤ rows.length ∧ rows.length ≤ 256)
set_option maxRecDepth 100000 in
set_option maxHeartbeats 4000000 in
theorem codeNew_any (w : World) (p m : Int) (ml : List Int) (mv : Value) (hmv : ISl w mv ml) (hn : ml.length ≤ 1000) (cols : Int) (rows : List (List Int)) (v : Value) (hv : MSl w v rows) (h0 : canE p m ml cols rows = 0 → 1 ≤ cols) :
    Calls Tryz.prog 75 #[.agg #[.int .i64 p, .int .i64 m, mv], .agg #[.int .i64 cols, v]] w fun r w' => CNewR p m ml cols rows w.heap.size r w' ∧ Ex w w' := by
  obtain ⟨g0, g1, g2, e0, gsz⟩ := box_facts w p m mv
  have HCN := hid_ (fun (w' : World) (h : Ex w w') => Canonical_any w' p m ml mv (hmv.ex h) cols rows v (hv.ex h) h0)
  have HMV := hid_ hmv
  obtain ⟨za, zc, rfl, -, z2, -⟩ := hv.open
  unfold maxLen at z2
  obtain ⟨ma, mc, rfl, -, m2, -⟩ := hmv.open
  unfold maxLen at m2
  obtain ⟨xb, hxb⟩ : ∃ xb, w.heap.size = xb := ⟨_, rfl⟩
  rw [hxb] at g0 g1 g2 gsz
  clear hmv hv h0
  go_enter Tryz.func75, Tryz.ntmps75
  go_wp2_with fail
  generalize w.alloc (.cells #[.int .i64 p, .int .i64 m, .slice ma ml.length mc] 24) = wA at *
  obtain ⟨a0, a1, ea⟩ := boxM2_facts wA cols (.slice za rows.length zc)
  have asz : (wA.alloc (.cells #[.int .i64 cols, .slice za rows.length zc] 113)).heap.size = xb + 1 + 1 := by simp [gsz]
  rw [gsz] at a0 a1
  generalize wA.alloc (.cells #[.int .i64 cols, .slice za rows.length zc] 113) = wB at *
  have bq := BxC.new wB
  rw [asz] at bq
  have eb : Ex wB _ := (Ex.refl wB).alloc (.cells #[.int .i64 0, .int .i64 0, .slice none 0 0, .int .i64 0, .slice none 0 0] 47)
  have A0 := hid_ (eb.cell a0)
  have G0 := hid_ ((ea.trans eb).cell g0)
  have G1 := hid_ ((ea.trans eb).cell g1)
  have G2 := hid_ ((ea.trans eb).cell g2)
  have BQ := hid_ bq
  have HE := hid_ ((e0.trans ea).trans eb)
  have csz : (wB.alloc (.cells #[.int .i64 0, .int .i64 0, .slice none 0 0, .int .i64 0, .slice none 0 0] 47)).heap.size = xb + 1 + 1 + 1 := by simp [asz]
  generalize wB.alloc (.cells #[.int .i64 0, .int .i64 0, .slice none 0 0, .int .i64 0, .slice none 0 0] 47) = wC at *
  have CSZ := hid_ csz
  have HXB := hid_ hxb
  refine (HCN.out wC HE.out).mono ?_
  clear g0 g1 g2 a0 a1 bq e0 ea eb asz gsz csz hxb
  rintro e w2 ⟨hc, hx2⟩
  have HX2 := hid_ (HE.out.trans hx2)
  have HC2 := hid_ hx2
  have BQ2 := hid_ (BQ.out.ex hx2)
  have A0 := hid_ (hx2.cell A0.out)
  have G0 := hid_ (hx2.cell G0.out)
  have G1 := hid_ (hx2.cell G1.out)
  have G2 := hid_ (hx2.cell G2.out)
  clear hx2 BQ HE HCN
  rcases hc with ⟨hce, pn, mn, N, piv, a', rv, pv, rfl, rfl, rfl, hfb, hmk, rfl, hel, hrv, hpv, g, blk, cap, base, hbase, rfl, hem⟩ | ⟨hce, rfl⟩
  · have hne : newE pn mn ml N rows = lenE N := by unfold newE; rw [if_neg (by simp [hce])]
    have HN := hid_ hne
    have HLN := hid_ (fun (w' : World) => length_any w' (N : Int))
    obtain ⟨L, hL⟩ : ∃ L, lenE N = L := ⟨_, rfl⟩
    rw [hL] at HN HLN
    have hp2 := (elo_rows hel).1
    have hr2 := (mchk_shape hmk).2.2.1
    have HEM := hid_ hem
    have HP2 := hid_ (show piv.length ≤ rows.length ∧ rows.length ≤ 256 from ⟨hp2, hr2⟩)
    have HBL := hid_ (show xb + 1 + 1 < base from by have := CSZ.out; omega)
    have HOK := hid_ (show FldB pn mn ml ∧ mchkS (pn ^ mn) N rows = 0 ∧ ElO pn mn ml N rows.length (rowsF rows) a' piv from ⟨hfb, hmk, hel⟩)
    obtain ⟨pa, pc, rfl, -, -, -⟩ := hpv.open
    have HX3 := hid_ ((Ex.refl w2).alloc (.cells #[.int .i64 N, .slice (some ⟨g, 0, none⟩) piv.length piv.length] 113))
    have HOF := hid_ (codeOf_any _ pn mn ml _ (HMV.out.ex (HX2.out.trans HX3.out)) hn N (rowsL N piv.length a') _ (hrv.ex HX3.out) L)
    have g0 := HX3.out.cell G0.out
    have g1 := HX3.out.cell G1.out
    have g2 := HX3.out.cell G2.out
    have a0 := HX3.out.cell A0.out
    have BQ3 := hid_ (BQ2.out.ex HX3.out)
    clear hne hL hce hfb hmk hel hrv hpv hbase hem hp2 hr2
    go_wp2_with fail
    refine (HLN.out _).mono ?_
    rintro e w3 ⟨rfl, hw3⟩
    subst hw3
    go_wp2_with fail
    refine HOF.out.mono ?_
    rintro e w4 ⟨ho, hx4⟩
    have X4 := hid_ ((HX2.out.trans HX3.out).trans hx4)
    have EM4 := hid_ (HEM.out.ex (HX3.out.trans hx4))
    have hw := HXB.out
    obtain ⟨q0, q1, q2, q3, q4, qf0, qf1, qf2, qf3, qf4⟩ := BQ3.out.ex hx4
    clear hx4 g0 g1 g2 a0
    rcases ho with ⟨hz, rfl⟩ | ⟨hz, v', rfl, hv', hb'⟩
    · have HNZ := hid_ hz
      clear hz
      go_wp2_with fail
      exact bodyPost_ret (v := .tuple #[.agg #[.int .i64 0, .int .i64 0, .slice none 0 0, .int .i64 0, .slice none 0 0], .int .i64 L]) (by simp [results, Tryz.results75, go_sem, q0, q1, q2, q3, q4]) rfl ⟨.inl ⟨by rw [HN.out]; exact HNZ.out, by rw [HN.out]⟩, set5_ex X4.out (by omega) _ _ _ _ _⟩
    · subst hz
      have HV := hid_ hv'
      have HB := hid_ (show ∀ B, v'.ownBlock = some B → B ≠ xb + 1 + 1 from fun B h => by
        have h1 := hb' B h
        have h2 := HC2.out.size
        have h3 := CSZ.out
        simp at h1
        omega)
      have HBV := hid_ (show ∀ B, v'.ownBlock = some B → w.heap.size ≤ B from fun B h => by
        have h1 := hb' B h
        have h2 := HC2.out.size
        have h3 := CSZ.out
        simp at h1
        omega)
      obtain ⟨va, vc, rfl, -, -, -⟩ := hv'.open
      clear hv' hb'
      have HEL := hid_ ((((((EM4.out.low (A := ⟨xb + 1 + 1, 0, none⟩) HBL.out (.int .i64 pn)).low (A := ⟨xb + 1 + 1, 1, none⟩) HBL.out (.int .i64 mn)).low (A := ⟨xb + 1 + 1, 2, none⟩) HBL.out (.slice va ml.length vc)).low (A := ⟨xb + 1 + 1, 3, none⟩) HBL.out (.int .i64 N)).low (A := ⟨xb + 1 + 1, 4, none⟩) HBL.out (.slice (some ⟨g, 0, none⟩) piv.length piv.length)))
      have HMS := hid_ (HEL.out.msl HP2.out.1 HP2.out.2)
      go_wp2_with fail
      exact bodyPost_ret (v := .tuple #[.agg #[.int .i64 pn, .int .i64 mn, .slice va ml.length vc, .int .i64 N, .slice (some ⟨g, 0, none⟩) piv.length piv.length], .int .i64 0]) (by simp [results, Tryz.results75, go_sem, q0, q1, q2, q3, q4]) rfl ⟨.inr ⟨HN.out, pn, mn, N, piv, a', _, _, rfl, rfl, rfl, HOK.out.1, HOK.out.2.1, rfl, HOK.out.2.2, set5_isl HV.out HB.out _ _ _ _ _, HMS.out, HBV.out, g, blk, cap, base, by have := HBL.out; omega, rfl, HEL.out, HP2.out.1, HP2.out.2⟩, set5_ex X4.out (by omega) _ _ _ _ _⟩
  · have hne : newE p m ml cols rows = canE p m ml cols rows := by unfold newE; rw [if_pos hce]
    have HN := hid_ hne
    obtain ⟨E, hE⟩ : ∃ E, canE p m ml cols rows = E := ⟨_, rfl⟩
    rw [hE] at HN hce ⊢
    have hb : (E == 0) = false := by simpa using hce
    have HNZ := hid_ hce
    have HX3 := hid_ ((Ex.refl w2).alloc (.cells #[.int .i64 0, .slice none 0 0] 113))
    have HOF := hid_ (codeOf_any _ p m ml _ (HMV.out.ex (HX2.out.trans HX3.out)) hn 0 [] (.slice none 0 0) ⟨[], Sl.nil _ 1, fun i r u h => by simp at h⟩ E)
    have g0 := HX3.out.cell G0.out
    have g1 := HX3.out.cell G1.out
    have g2 := HX3.out.cell G2.out
    have BQ3 := hid_ (BQ2.out.ex HX3.out)
    clear hne hE hce
    go_wp2_with fail
    refine HOF.out.mono ?_
    rintro e w4 ⟨ho, hx4⟩
    rcases ho with ⟨_, rfl⟩ | ⟨h, _⟩
    · obtain ⟨q0, q1, q2, q3, q4, qf0, qf1, qf2, qf3, qf4⟩ := BQ3.out.ex hx4
      have X4 := hid_ ((HX2.out.trans HX3.out).trans hx4)
      have hw := HXB.out
      clear hx4 g0 g1 g2
      go_wp2_with fail
      exact bodyPost_ret (v := .tuple #[.agg #[.int .i64 0, .int .i64 0, .slice none 0 0, .int .i64 0, .slice none 0 0], .int .i64 E]) (by simp [results, Tryz.results75, go_sem, q0, q1, q2, q3, q4]) rfl ⟨.inl ⟨by rw [HN.out]; exact HNZ.out, by rw [HN.out]⟩, set5_ex X4.out (by omega) _ _ _ _ _⟩
    · exact absurd h HNZ.out
end Go.Proofs.YtgdmlmhpineibaaGreat
namespace Go.Proofs.YtgdmlmhpineibaaGreat
set_option linter.unusedVariables false
set_option linter.unusedSimpArgs false
open Go.RowKit

section
variable {p m : Nat} {ml : List Int} {mv : Value}
set_option maxRecDepth 100000 in
set_option maxHeartbeats 4000000 in
theorem rImage_any (w : World) (hf : FSh p m ml) (hF : IsF p m (lw ml)) (hmv : ISl w mv ml) (N : Nat) (hN : N ≤ 64) (pl sl x : List Int) (pv sv xv : Value) (hp : ISl w pv pl) (hs : ISl w sv sl) (hx : ISl w xv x) (fr : Nat) (hfr : fr < m) (hpl : pl.length = N) (hsl : sl.length = N) (hxl : x.length = N) (hr : rngB pl N = true) (hxe : ∀ i, i < N → ∃ z : Nat, x.getD i 0 = z ∧ z < p ^ m) :
    Calls Tryz.prog 51 #[.agg #[.int .i64 p, .int .i64 m, mv], .agg #[pv, sv, .int .i64 fr], xv] w fun r w' => ∃ g, r = .returned (.slice (some ⟨g, 0, none⟩) N N) ∧ Own w' w.heap.size 3 g N (iv (imgF p m ml pl sl fr x N)) ∧ Ex w w' := by
  obtain ⟨a0, a1, a2, ea⟩ := boxF_facts w p m mv
  obtain ⟨b0, b1, b2, eb⟩ := boxMo_facts (w.alloc (.cells #[.int .i64 p, .int .i64 m, mv] 24)) pv sv fr
  have asz : (w.alloc (.cells #[.int .i64 p, .int .i64 m, mv] 24)).heap.size = w.heap.size + 1 := by simp
  rw [asz] at b0 b1 b2
  replace a0 := eb.cell a0
  replace a1 := eb.cell a1
  replace a2 := eb.cell a2
  have p2 := hf.p2
  have m1 := hf.m1
  have m8 := hf.m8
  have HFR := hid_ (fun (w1 : World) (h1 : Ex w w1) (y : Nat) (hy : y < p ^ m) => rFrob_any w1 hf hF (hmv.ex h1) y hy fr (by omega))
  have HMU := hid_ (fun (w1 : World) (h1 : Ex w w1) (y z : Int) => rMul_any w1 hf (hmv.ex h1) y z)
  obtain ⟨pa, pc, rfl, _, q2, p3⟩ := hp.open
  obtain ⟨sa, sc, rfl, _, s2, s3⟩ := hs.open
  obtain ⟨xa, xc, rfl, _, x2, x3⟩ := hx.open
  unfold maxLen at q2 s2 x2
  rw [hpl] at p3
  rw [hsl] at s3
  rw [hxl] at x3
  rw [hpl, hsl, hxl]
  rw [hpl, hsl] at b0 b1 eb b2 a0 a1 a2
  have P3 := hid_ p3
  have S3 := hid_ s3
  have X3 := hid_ x3
  have HRG := hid_ (fun i (hi : i < N) => rngB_at hr (i := i) (by omega))
  have HGP := hid_ (fun i (hi : i < N) => get_getD (l := pl) (i := i) (by omega))
  have HGS := hid_ (fun i (hi : i < N) => get_getD (l := sl) (i := i) (by omega))
  have HGX := hid_ (fun i (hi : i < N) => get_getD (l := x) (i := i) (by omega))
  have HXE := hid_ hxe
  have HEB := hid_ (ea.trans eb)
  obtain ⟨ma, mc, rfl, -, -, -⟩ := hmv.open
  clear hf hF hmv hp hs hx p3 s3 x3 ea eb asz hpl hsl hxl hr hxe
  go_enter Tryz.func51, Tryz.ntmps51
  go_wp2_with (at_make; refine wpList_make_arr _ rfl _ _ 22 rfl 3 (.int .i64 0) 8 Tryz.underlying22 infoInt rfl _ N rfl rfl rfl (by omega) (by unfold maxLen; omega) ?_)
  obtain ⟨B, hB⟩ : ∃ B, w.heap.size = B := ⟨_, rfl⟩
  rw [hB] at a0 a1 a2 b0 b1 b2
  try simp only [hB]
  have HBW := hid_ hB
  have hsz : ((w.alloc (.cells #[.int .i64 p, .int .i64 m, .slice ma ml.length mc] 24)).alloc (.cells #[.slice pa N pc, .slice sa N sc, .int .i64 fr] 26)).heap.size = B + 1 + 1 := by simp [hB]
  clear hB
  generalize (w.alloc (.cells #[.int .i64 p, .int .i64 m, .slice ma ml.length mc] 24)).alloc (.cells #[.slice pa N pc, .slice sa N sc, .int .i64 fr] 26) = w1 at *
  intro w3 hown hx3
  have B0 := hid_ b0
  have B1 := hid_ b1
  have B2 := hid_ b2
  have A0 := hid_ a0
  have A1 := hid_ a1
  have A2 := hid_ a2
  obtain ⟨M, hM⟩ : ∃ M, B + 1 = M := ⟨_, rfl⟩
  rw [hM] at B0 B1 B2 hsz
  try simp only [hM]
  have HMM := hid_ hM
  obtain ⟨g, hgg⟩ : ∃ g, M + 1 = g := ⟨_, rfl⟩
  have HO3 := hid_ (show Own w3 g 3 g N (iv (plc (piF pl) (vF p m ml sl fr x) 0)) from by rw [← hgg, ← hM]; exact hown)
  try simp only [hgg]
  have HX3 := hid_ hx3
  have HGE := hid_ (show w1.heap.size = g from by rw [← hgg, ← hsz])
  clear hown hx3 b0 b1 b2 a0 a1 a2 hgg hsz hM
  go_wp2_with fail
  go_loopw [8] (fun i' wr => ∃ (i : Nat), i ≤ N ∧ i' = .int .i64 i ∧ Hid (Own wr g 3 g N (iv (plc (piF pl) (vF p m ml sl fr x) i))) ∧ Hid (Ex w1 wr)) (fun i' _ => N - (intOf i').toNat)
  case atStart => exact ⟨0, by omega, rfl, HO3, HX3⟩
  case round =>
    clear HO3
    obtain ⟨i, hi, rfl, hown, hex⟩ := hrel
    by_cases hin : i < N
    · obtain ⟨pb, po, rfl, hpc⟩ := P3.out (by omega)
      obtain ⟨sb, so, rfl, hsc⟩ := S3.out (by omega)
      obtain ⟨xb, xo, rfl, hxc⟩ := X3.out (by omega)
      have hpr := HRG.out i hin
      have EXW := hid_ (HEB.out.trans hex.out)
      obtain ⟨y, hy⟩ : ∃ y, piF pl i = y := ⟨_, rfl⟩
      have hyp : pl.getD i 0 = (y : Int) := by rw [← hy]; unfold piF; omega
      have hyN : y < N := by omega
      have hgp := HGP.out i hin
      rw [hyp] at hgp
      have CPW := hid_ (hpc i _ hgp)
      have cp := EXW.out.cell CPW.out
      obtain ⟨s, hs⟩ : ∃ s, sl.getD i 0 = s := ⟨_, rfl⟩
      have hgs := HGS.out i hin
      rw [hs] at hgs
      have CSW := hid_ (hsc i _ hgs)
      have cs := EXW.out.cell CSW.out
      obtain ⟨z, hz, hzl⟩ := HXE.out i hin
      have hgx := HGX.out i hin
      rw [hz] at hgx
      have CXW := hid_ (hxc i _ hgx)
      have cx := EXW.out.cell CXW.out
      have i1 : (0 : Int) ≤ (i : Int) := by omega
      have i2 : (i : Int) < (N : Int) := by omega
      have i3 : (0 : Int) ≤ (y : Int) := by omega
      have i4 : (y : Int) < (N : Int) := by omega
      have HFW := hid_ (fun (w5 : World) (h5 : Ex wr w5) => HFR.out w5 (EXW.out.trans h5) z hzl)
      obtain ⟨t, ht⟩ : ∃ t, frb p m (lw ml) z fr = t := ⟨_, rfl⟩
      have htl : t < p ^ m := by rw [← ht]; exact frb_lt p2 m1 hzl _
      rw [ht] at HFW
      have HMW := hid_ (fun (w5 : World) (h5 : Ex wr w5) => by
        have := HMU.out w5 (EXW.out.trans h5) s (t : Int)
        rw [kin_of htl] at this
        exact this)
      obtain ⟨u, hu⟩ : ∃ u, kmul p m (lw ml) (kin (p ^ m) s) t = u := ⟨_, rfl⟩
      rw [hu] at HMW
      have HVE := hid_ (show upd (plc (piF pl) (vF p m ml sl fr x) i) y (u : Int) = plc (piF pl) (vF p m ml sl fr x) (i + 1) from by
        show _ = upd (plc (piF pl) (vF p m ml sl fr x) i) (piF pl i) (vF p m ml sl fr x i)
        rw [hy]
        congr 1
        unfold vF
        rw [hs, hz, kin_of hzl, ht, hu])
      have h0 := hex.out.cell A0.out
      have h1 := hex.out.cell A1.out
      have h2 := hex.out.cell A2.out
      have d0 := hex.out.cell B0.out
      have d1 := hex.out.cell B1.out
      have d2 := hex.out.cell B2.out
      have HOW := hid_ hown.out
      have HEX := hid_ hex.out
      have HXS := hid_ (fun (w5 : World) (h5 : Ex wr w5) => (HOW.out.ex h5).exSet (a := w1) (Nat.le_of_eq HGE.out) (HEX.out.trans h5) y (.int .i64 (u : Int)))
      have HOS := hid_ (fun (w5 : World) (h5 : Ex wr w5) => show Own (w5.setCell ⟨g, y, none⟩ (.int .i64 (u : Int))) g 3 g N (iv (plc (piF pl) (vF p m ml sl fr x) (i + 1))) from by
        rw [← HVE.out, ← iv_upd]; exact (HOW.out.ex h5).set y _)
      have CP := hid_ cp
      have CS := hid_ cs
      have CX := hid_ cx
      have HYN := hid_ hyN
      clear hpr hy hyp hgp hs hgs hz hgx ht htl hu hpc hsc hxc hown hex hzl
      go_wp2_with fail
      have CA0 := hid_ h0
      have CA1 := hid_ h1
      have CA2 := hid_ h2
      have CB0 := hid_ d0
      have CB1 := hid_ d1
      have CB2 := hid_ d2
      have HALL := hid_ (fun (w5 : World) (h5 : Ex wr w5) => (⟨h5.cell CP.out, h5.cell CS.out, h5.cell CX.out, h5.cell CA0.out, h5.cell CA1.out, h5.cell CA2.out, h5.cell CB0.out, h5.cell CB1.out, h5.cell CB2.out⟩ : w5.cell? ⟨pb, po + i, none⟩ = some (.int .i64 (y : Int)) ∧ w5.cell? ⟨sb, so + i, none⟩ = some (.int .i64 s) ∧ w5.cell? ⟨xb, xo + i, none⟩ = some (.int .i64 (z : Int)) ∧ w5.cell? ⟨B, 0, none⟩ = some (.int .i64 (p : Int)) ∧ w5.cell? ⟨B, 1, none⟩ = some (.int .i64 (m : Int)) ∧ w5.cell? ⟨B, 2, none⟩ = some (.slice ma ml.length mc) ∧ w5.cell? ⟨M, 0, none⟩ = some (.slice (some ⟨pb, po, none⟩) N pc) ∧ w5.cell? ⟨M, 1, none⟩ = some (.slice (some ⟨sb, so, none⟩) N sc) ∧ w5.cell? ⟨M, 2, none⟩ = some (.int .i64 (fr : Int))))
      have HALS := hid_ (fun (w5 : World) (h5 : Ex wr w5) => (⟨(HEB.out.trans (HXS.out w5 h5)).cell CPW.out, (HEB.out.trans (HXS.out w5 h5)).cell CSW.out, (HEB.out.trans (HXS.out w5 h5)).cell CXW.out, (HXS.out w5 h5).cell A0.out, (HXS.out w5 h5).cell A1.out, (HXS.out w5 h5).cell A2.out, (HXS.out w5 h5).cell B0.out, (HXS.out w5 h5).cell B1.out, (HXS.out w5 h5).cell B2.out⟩ : (w5.setCell ⟨g, y, none⟩ (.int .i64 (u : Int))).cell? ⟨pb, po + i, none⟩ = some (.int .i64 (y : Int)) ∧ (w5.setCell ⟨g, y, none⟩ (.int .i64 (u : Int))).cell? ⟨sb, so + i, none⟩ = some (.int .i64 s) ∧ (w5.setCell ⟨g, y, none⟩ (.int .i64 (u : Int))).cell? ⟨xb, xo + i, none⟩ = some (.int .i64 (z : Int)) ∧ (w5.setCell ⟨g, y, none⟩ (.int .i64 (u : Int))).cell? ⟨B, 0, none⟩ = some (.int .i64 (p : Int)) ∧ (w5.setCell ⟨g, y, none⟩ (.int .i64 (u : Int))).cell? ⟨B, 1, none⟩ = some (.int .i64 (m : Int)) ∧ (w5.setCell ⟨g, y, none⟩ (.int .i64 (u : Int))).cell? ⟨B, 2, none⟩ = some (.slice ma ml.length mc) ∧ (w5.setCell ⟨g, y, none⟩ (.int .i64 (u : Int))).cell? ⟨M, 0, none⟩ = some (.slice (some ⟨pb, po, none⟩) N pc) ∧ (w5.setCell ⟨g, y, none⟩ (.int .i64 (u : Int))).cell? ⟨M, 1, none⟩ = some (.slice (some ⟨sb, so, none⟩) N sc) ∧ (w5.setCell ⟨g, y, none⟩ (.int .i64 (u : Int))).cell? ⟨M, 2, none⟩ = some (.int .i64 (fr : Int))))
      clear h0 h1 h2 d0 d1 d2 cp cs cx
      have G0 : Ex wr wr.drew := (Ex.refl wr).drew
      go_region_held3 (fun w' => w'.cell? ⟨pb, po + i, none⟩ = some (.int .i64 (y : Int)) ∧ w'.cell? ⟨sb, so + i, none⟩ = some (.int .i64 s) ∧ w'.cell? ⟨xb, xo + i, none⟩ = some (.int .i64 (z : Int)) ∧ w'.cell? ⟨B, 0, none⟩ = some (.int .i64 (p : Int)) ∧ w'.cell? ⟨B, 1, none⟩ = some (.int .i64 (m : Int)) ∧ w'.cell? ⟨B, 2, none⟩ = some (.slice ma ml.length mc) ∧ w'.cell? ⟨M, 0, none⟩ = some (.slice (some ⟨pb, po, none⟩) N pc) ∧ w'.cell? ⟨M, 1, none⟩ = some (.slice (some ⟨sb, so, none⟩) N sc) ∧ w'.cell? ⟨M, 2, none⟩ = some (.int .i64 (fr : Int)))
        (first | with_reducible exact HALL.out _ G0 | with_reducible exact HALL.out _ X5 | with_reducible exact HALL.out _ X6 | with_reducible exact HALS.out _ X6)
        (first | (go_at_call 54; (with_reducible refine (HFW.out _ G0).mono ?_); rintro e w5 ⟨rfl, h5⟩; have X5 := G0.trans h5; clear h5) | (go_at_call 60; (with_reducible refine (HMW.out _ X5).mono ?_); rintro e w6 ⟨rfl, h6⟩; have X6 := X5.trans h6; clear h6; have co6 := (HOW.out.ex X6).cell HYN.out; have cf6 := (HOW.out.ex X6).frz y))
      go_wp2_with fail
      go_roundw
      case rel => first | exact ⟨i + 1, by omega, by go_num, hid_ (HOS.out _ X6), hid_ (HXS.out _ X6)⟩ | ((repeat apply Exists.intro); exact ⟨⟨i + 1, by omega, by go_num, hid_ (HOS.out _ X6), hid_ (HXS.out _ X6)⟩, rfl⟩)
      case measure => simp [intOf]; omega
    · obtain rfl : i = N := by omega
      go_wp2_with fail
      go_ret
      exact ⟨g, rfl, hown.out.mono (by have := HGE.out; have := HBW.out; have := HMM.out; have := HEB.out.size; omega), HEB.out.trans hex.out⟩
end
end Go.Proofs.YtgdmlmhpineibaaGreat
