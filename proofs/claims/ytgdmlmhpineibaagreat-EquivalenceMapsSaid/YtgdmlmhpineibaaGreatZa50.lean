/- Walk of codewrightref31.Inverse. -/
import Derived.Deep.CutRange
import Derived.Deep.RegionHeld3
import Derived.Test.YtgdmlmhpineibaaGreatZa12
import Derived.Test.YtgdmlmhpineibaaGreatZa28
import Derived.Test.YtgdmlmhpineibaaGreatZa45
namespace Go.Proofs.YtgdmlmhpineibaaGreat
set_option linter.unusedVariables false
set_option linter.unusedSimpArgs false
open Go.RowKit

set_option maxRecDepth 100000 in
set_option maxHeartbeats 4000000 in
theorem rInverse_any (w : World) (p m : Int) (ml : List Int) (mv : Value) (hmv : ISl w mv ml) (pl sl : List Int) (pv sv : Value) (hp : ISl w pv pl) (hs : ISl w sv sl) (fr : Int) :
    Calls Tryz.prog 18 #[.agg #[.int .i64 p, .int .i64 m, mv], .agg #[pv, sv, .int .i64 fr]] w fun r w' => MoR (invM p m ml pl sl fr) (monS p m ml pl.length pl sl fr) r w' ∧ Ex w w' := by
  obtain ⟨a0, a1, a2, ea⟩ := boxF_facts w p m mv
  obtain ⟨b0, b1, b2, eb⟩ := boxMo_facts (w.alloc (.cells #[.int .i64 p, .int .i64 m, mv] 24)) pv sv fr
  have bq := BxM.new ((w.alloc (.cells #[.int .i64 p, .int .i64 m, mv] 24)).alloc (.cells #[pv, sv, .int .i64 fr] 26))
  have ec : Ex ((w.alloc (.cells #[.int .i64 p, .int .i64 m, mv] 24)).alloc (.cells #[pv, sv, .int .i64 fr] 26)) _ := (Ex.refl _).alloc (.cells #[.slice none 0 0, .slice none 0 0, .int .i64 0] 26)
  have a0 := (eb.trans ec).cell a0
  have a1 := (eb.trans ec).cell a1
  have a2 := (eb.trans ec).cell a2
  have b0 := ec.cell b0
  have b1 := ec.cell b1
  have b2 := ec.cell b2
  have hsz : (w.alloc (.cells #[.int .i64 p, .int .i64 m, mv] 24)).heap.size = w.heap.size + 1 := by simp
  have hsz2 : ((w.alloc (.cells #[.int .i64 p, .int .i64 m, mv] 24)).alloc (.cells #[pv, sv, .int .i64 fr] 26)).heap.size = w.heap.size + 1 + 1 := by simp
  rw [hsz] at b0 b1 b2
  rw [hsz2] at bq
  have HE := hid_ ((ea.trans eb).trans ec)
  have HOP := hid_ (rMCheck_any _ p m ml mv (hmv.ex HE.out) pl.length pl sl pv sv (hp.ex HE.out) (hs.ex HE.out) fr)
  have HMV := hid_ (hmv.ex HE.out)
  have HP := hid_ (hp.ex HE.out)
  have HS := hid_ (hs.ex HE.out)
  obtain ⟨ma, mc, rfl, _, _, _⟩ := hmv.open
  obtain ⟨pa, pc, rfl, _, p2, p3⟩ := hp.open
  obtain ⟨sa, sc, rfl, _, s2, s3⟩ := hs.open
  unfold maxLen at p2 s2
  obtain ⟨E, hE⟩ : ∃ E, monS p m ml pl.length pl sl fr = E := ⟨_, rfl⟩
  obtain ⟨M, hM⟩ : ∃ M, invM p m ml pl sl fr = M := ⟨_, rfl⟩
  have hMD := hM
  unfold invM at hMD
  rw [hE] at hMD HOP
  rw [hE, hM]
  have HME := hid_ hE
  clear hmv hp hs hE hsz hsz2 ea eb ec hM
  go_enter Tryz.func18, Tryz.ntmps18
  go_wp2_with fail
  obtain ⟨q, hq⟩ : ∃ q, w.heap.size = q := ⟨_, rfl⟩
  rw [hq] at a0 a1 a2 b0 b1 b2 bq
  try simp only [hq]
  have HQ := hid_ hq
  clear hq
  generalize ((w.alloc (.cells #[.int .i64 p, .int .i64 m, .slice ma ml.length mc] 24)).alloc (.cells #[.slice pa pl.length pc, .slice sa sl.length sc, .int .i64 fr] 26)).alloc (.cells #[.slice none 0 0, .slice none 0 0, .int .i64 0] 26) = w1 at *
  have A0 := hid_ a0
  have A1 := hid_ a1
  have A2 := hid_ a2
  have B0 := hid_ b0
  have B1 := hid_ b1
  have B2 := hid_ b2
  have BQ := hid_ bq
  have HQS := hid_ (show q + 1 + 1 < w1.heap.size from by first | exact World.block_lt_of_cell? w1 ⟨q + 1 + 1, 0, none⟩ BQ.out.c0)
  have HQW := hid_ (show w.heap.size ≤ q + 1 + 1 from by have := HQ.out; omega)
  clear a0 a1 a2 b0 b1 b2 bq
  refine HOP.out.mono ?_
  rintro e w2 ⟨rfl, hx2⟩
  have HX2 := hid_ hx2
  have d0 := hx2.cell A0.out
  have d1 := hx2.cell A1.out
  have d2 := hx2.cell A2.out
  have e0 := hx2.cell B0.out
  have e1 := hx2.cell B1.out
  have e2 := hx2.cell B2.out
  obtain ⟨q0, q1, q2, qf0, qf1, qf2⟩ := BQ.out.ex hx2
  by_cases h0 : E = 0
  · subst h0
    obtain ⟨n0, n1, n2, n3, n4, n5, n6, n7, _, n8⟩ := mon_ok HME.out
    obtain ⟨pn, mn, rfl, rfl, hf, hpr, hF⟩ := (chk_iff _ _ _).1 n0
    obtain ⟨fn, rfl⟩ : ∃ fn : Nat, fr = fn := ⟨fr.toNat, by omega⟩
    rw [if_neg (by decide), Int.toNat_natCast, Int.toNat_natCast, Int.toNat_natCast] at hMD
    have m8 := hf.m8
    have p2' := hf.p2
    have i1 : IntKind.i64.wrap ((mn : Int) - (fn : Int)) = (mn : Int) - (fn : Int) := IntWalk.i64_in _ (by omega)
    have i2 : ((mn : Int) - (fn : Int)).tmod (mn : Int) = ((bckN mn fn : Nat) : Int) := by
      rw [Int.tmod_eq_emod_of_nonneg (by omega)]
      unfold bckN
      rw [Int.natCast_emod]
      congr 1
      omega
    have i3 : ¬ mn = 0 := by omega
    have i4 : ¬ ((mn : Int) = 0) := by omega
    have hbk : bckN mn fn < mn := Nat.mod_lt _ (by omega)
    obtain ⟨bk, hbk2⟩ : ∃ bk, bckN mn fn = bk := ⟨_, rfl⟩
    rw [hbk2] at i2 hbk hMD
    have HG := hid_ (And.intro hf hF)
    have hq0 : 0 < pn ^ mn := Nat.pow_pos (by omega)
    have hsn : sl.length = pl.length := by omega
    rw [hsn] at e1 ⊢
    have hn64 : pl.length ≤ 64 := by omega
    have n8' : facS (pn ^ mn) sl = 0 := by simpa only [Int.toNat_natCast] using n8
    have HFA := hid_ (fun i (hi : i < pl.length) => fac_at (l := sl) (i := i) n8' (by omega))
    clear n8'
    have HRG := hid_ (fun i (hi : i < pl.length) => rngB_at n5 hi)
    have HGP := hid_ (fun i (hi : i < pl.length) => get_getD (l := pl) hi)
    have HGS := hid_ (fun i (hi : i < pl.length) => get_getD (l := sl) (i := i) (by omega))
    have P3 := hid_ p3
    have S3 := hid_ s3
    rw [hsn] at S3
    have HSN := hid_ hsn
    clear hf hF hpr n0 p3 s3 hx2 hbk2 hsn
    go_wp2_with fail
    go_upto_region 6 with fail
    clear i1 i2 i3 i4
    go_cut [9] from 30 to 35 (fun s9 wx => ∃ B g h : Nat, s9 = .pointer (some ⟨B, 0, none⟩) ∧ Hid (IvB w2 wx B g h pl.length bk (fun _ => 0) (fun _ => 0)))
    case first =>
      go_region_held3 (fun _ => True)
        (trivial)
        (first | (have hk := hown6; clear hk; refine upon_make_arr 22 3 (.int .i64 0) 8 Tryz.underlying22 infoInt rfl pl.length (by omega) (by unfold maxLen; omega) ?_; intro w7 hown7 hx7; (first | (have bx7 := (BxM.mk z0 z1 z2 zf0 zf1 zf2).ex hx7; clear z0 z1 z2 zf0 zf1 zf2; obtain ⟨z0, z1, z2, zf0, zf1, zf2⟩ := bx7) | (have bx7 := (BxM.new w6).ex hx7; obtain ⟨z0, z1, z2, zf0, zf1, zf2⟩ := bx7) | skip); go_simp) | (refine upon_make_arr 22 3 (.int .i64 0) 8 Tryz.underlying22 infoInt rfl pl.length (by omega) (by unfold maxLen; omega) ?_; intro w6 hown6 hx6; (first | (have bx6 := ((BxM.new w2).ex (Ex.refl _).drew).ex hx6; obtain ⟨z0, z1, z2, zf0, zf1, zf2⟩ := bx6) | skip); go_simp))
      all_goals
        have X7 : Ex w6 w7 := by first | exact hx7 | exact ((Ex.refl w6).alloc _).trans hx7
        have X6 : Ex w2 w6 := by first | exact (Ex.refl w2).drew.trans hx6 | exact (((Ex.refl w2).alloc _).drew).trans hx6
        have e6 := hx6.size
        have e7 := hx7.size
        have o6 := hown6.ex X7
        have o7 := hown7
        simp at e6 e7 o6 o7
        have l6 := hown6.lt
        have l7 := hown7.lt
        simp at l6 l7
        replace o6 := o6.mono (b' := w2.heap.size) (by omega)
        replace o7 := o7.mono (b' := w2.heap.size) (by omega)
        go_wp2_with fail
        go_meet
        first
          | exact ⟨_, _, _, rfl, hid_ (IvB.last o6 o7 (by omega) (X6.trans X7))⟩
          | exact ⟨_, _, _, rfl, hid_ (IvB.last o7 o6 (by omega) (X6.trans X7))⟩
          | exact ⟨_, _, _, rfl, hid_ (IvB.fresh ⟨z0, z1, z2, zf0, zf1, zf2⟩ o6 o7 (by omega) (by omega) (X6.trans X7) (by omega))⟩
          | exact ⟨_, _, _, rfl, hid_ (IvB.fresh ⟨z0, z1, z2, zf0, zf1, zf2⟩ o7 o6 (by omega) (by omega) (X6.trans X7) (by omega))⟩
    case rest =>
      obtain ⟨B, g, h, rfl, hiv⟩ := hcut
      have HX02 := hid_ (HE.out.trans HX2.out)
      have HGX := hid_ (fun (w5 : World) (h5 : Ex w2 w5) => rInv_any w5 HG.out.1 (HMV.out.ex (HX2.out.trans h5)))
      have HFX := hid_ (fun (w5 : World) (h5 : Ex w2 w5) (y : Nat) (hy : y < pn ^ mn) => rFrob_any w5 HG.out.1 HG.out.2 (HMV.out.ex (HX2.out.trans h5)) y hy bk (by omega))
      have C0 := hid_ d0
      have C1 := hid_ d1
      have C2 := hid_ d2
      have D0 := hid_ e0
      have D1 := hid_ e1
      have D2 := hid_ e2
      have HIV := hid_ (show IvB w2 wc B g h pl.length bk (plc (piF pl) (fun i => (i : Int)) 0) (plc (piF pl) (ivS pn mn ml sl bk) 0) from hiv.out)
      clear hiv hbk d0 d1 d2 e0 e1 e2 n8
      go_wp2_with fail
      go_loopw [10] (fun i' wr => ∃ (i : Nat), i ≤ pl.length ∧ i' = .int .i64 i ∧ Hid (IvB w2 wr B g h pl.length bk (plc (piF pl) (fun i => (i : Int)) i) (plc (piF pl) (ivS pn mn ml sl bk) i))) (fun i' _ => pl.length - (intOf i').toNat)
      case atStart => exact ⟨0, by omega, rfl, HIV⟩
      case round =>
        clear HIV
        obtain ⟨i, hi, rfl, hiv⟩ := hrel
        by_cases hin : i < pl.length
        · obtain ⟨pb, po, rfl, hpc⟩ := P3.out (by omega)
          obtain ⟨sb, so, rfl, hsc⟩ := S3.out (by omega)
          have hpr := HRG.out i hin
          have EXW := hid_ (HX02.out.trans hiv.out.ex)
          obtain ⟨y, hy⟩ : ∃ y, piF pl i = y := ⟨_, rfl⟩
          have hyp : pl.getD i 0 = (y : Int) := by rw [← hy]; unfold piF; omega
          have hyN : y < pl.length := by omega
          have hgp := HGP.out i hin
          rw [hyp] at hgp
          have CPW := hid_ (hpc i _ hgp)
          obtain ⟨s, hs, hs1, hsq⟩ := HFA.out i hin
          have hgs := HGS.out i hin
          rw [hs] at hgs
          have CSW := hid_ (hsc i _ hgs)
          have j1 : (0 : Int) ≤ (i : Int) := by omega
          have j2 : (i : Int) < (pl.length : Int) := by omega
          have j3 : (0 : Int) ≤ (y : Int) := by omega
          have j4 : (y : Int) < (pl.length : Int) := by omega
          have HGW := hid_ (fun (w5 : World) (h5 : Ex w2 w5) => by
            have := HGX.out w5 h5 (s : Int)
            rw [kin_of hsq] at this
            exact this)
          obtain ⟨u, hu⟩ : ∃ u, kinv pn mn ml s = u := ⟨_, rfl⟩
          have hul : u < pn ^ mn := by rw [← hu]; exact kinv_lt hq0 _
          rw [hu] at HGW
          have HFW := hid_ (fun (w5 : World) (h5 : Ex w2 w5) => by
            have := HFX.out w5 h5 u hul
            exact this)
          obtain ⟨t, ht⟩ : ∃ t, frb pn mn (lw ml) u bk = t := ⟨_, rfl⟩
          rw [ht] at HFW
          have HV1 := hid_ (show upd (plc (piF pl) (fun i => (i : Int)) i) y (i : Int) = plc (piF pl) (fun i => (i : Int)) (i + 1) from by
            show _ = upd (plc (piF pl) (fun i => (i : Int)) i) (piF pl i) _
            rw [hy])
          have HV2 := hid_ (show upd (plc (piF pl) (ivS pn mn ml sl bk) i) y (t : Int) = plc (piF pl) (ivS pn mn ml sl bk) (i + 1) from by
            show _ = upd (plc (piF pl) (ivS pn mn ml sl bk) i) (piF pl i) (ivS pn mn ml sl bk i)
            rw [hy]
            congr 1
            unfold ivS
            rw [hs, kin_of hsq, hu, ht])
          have H2 := hid_ hiv.out
          have HYN := hid_ hyN
          clear hpr hy hyp hgp hs hgs hsq hul hu ht hpc hsc hiv
          have HALL := hid_ (fun (w7 : World) (h7 : Ex wr w7) => (⟨(H2.out.later h7).b0, (H2.out.later h7).ex.cell D0.out, (H2.out.later h7).ex.cell (HX02.out.cell CPW.out)⟩ : w7.cell? ⟨B, 0, none⟩ = some (.slice (some ⟨g, 0, none⟩) pl.length pl.length) ∧ w7.cell? ⟨q + 1, 0, none⟩ = some (.slice (some ⟨pb, po, none⟩) pl.length pc) ∧ w7.cell? ⟨pb, po + i, none⟩ = some (.int .i64 (y : Int))))
          have HALLS := hid_ (fun (w7 : World) (h7 : Ex wr w7) => (⟨((H2.out.later h7).set0 y (i : Int)).b0, ((H2.out.later h7).set0 y (i : Int)).ex.cell D0.out, ((H2.out.later h7).set0 y (i : Int)).ex.cell (HX02.out.cell CPW.out)⟩ : (w7.setCell ⟨g, y, none⟩ (.int .i64 (i : Int))).cell? ⟨B, 0, none⟩ = some (.slice (some ⟨g, 0, none⟩) pl.length pl.length) ∧ (w7.setCell ⟨g, y, none⟩ (.int .i64 (i : Int))).cell? ⟨q + 1, 0, none⟩ = some (.slice (some ⟨pb, po, none⟩) pl.length pc) ∧ (w7.setCell ⟨g, y, none⟩ (.int .i64 (i : Int))).cell? ⟨pb, po + i, none⟩ = some (.int .i64 (y : Int))))
          have G0 : Ex wr wr.drew := (Ex.refl wr).drew
          have HK := hid_ (H2.out.later G0)
          have kf := HK.out.o0.frz y
          have kc := HK.out.o0.cell HYN.out
          go_wp2_with fail
          go_region_held3 (fun w' => w'.cell? ⟨B, 0, none⟩ = some (.slice (some ⟨g, 0, none⟩) pl.length pl.length) ∧ w'.cell? ⟨q + 1, 0, none⟩ = some (.slice (some ⟨pb, po, none⟩) pl.length pc) ∧ w'.cell? ⟨pb, po + i, none⟩ = some (.int .i64 (y : Int)))
            (first | with_reducible exact HALL.out _ G0 | exact HALLS.out wr.drew G0)
            (fail)
          have H6 := hid_ (show IvB w2 ((wr.setCell ⟨g, y, none⟩ (.int .i64 (i : Int))).drew) B g h pl.length bk (plc (piF pl) (fun i => (i : Int)) (i + 1)) (plc (piF pl) (ivS pn mn ml sl bk) i) from by rw [← HV1.out]; exact HK.out.set0 y (i : Int))
          clear kf kc
          generalize (wr.setCell ⟨g, y, none⟩ (.int .i64 (i : Int))).drew = w6 at *
          clear H2 HK HALL HALLS G0
          have HALL := hid_ (fun (w7 : World) (h7 : Ex w6 w7) => (⟨(H6.out.later h7).b1, (H6.out.later h7).ex.cell D0.out, (H6.out.later h7).ex.cell (HX02.out.cell CPW.out), (H6.out.later h7).ex.cell C0.out, (H6.out.later h7).ex.cell C1.out, (H6.out.later h7).ex.cell C2.out, (H6.out.later h7).ex.cell D1.out, (H6.out.later h7).ex.cell (HX02.out.cell CSW.out)⟩ : w7.cell? ⟨B, 1, none⟩ = some (.slice (some ⟨h, 0, none⟩) pl.length pl.length) ∧ w7.cell? ⟨q + 1, 0, none⟩ = some (.slice (some ⟨pb, po, none⟩) pl.length pc) ∧ w7.cell? ⟨pb, po + i, none⟩ = some (.int .i64 (y : Int)) ∧ w7.cell? ⟨q, 0, none⟩ = some (.int .i64 (pn : Int)) ∧ w7.cell? ⟨q, 1, none⟩ = some (.int .i64 (mn : Int)) ∧ w7.cell? ⟨q, 2, none⟩ = some (.slice ma ml.length mc) ∧ w7.cell? ⟨q + 1, 1, none⟩ = some (.slice (some ⟨sb, so, none⟩) pl.length sc) ∧ w7.cell? ⟨sb, so + i, none⟩ = some (.int .i64 (s : Int))))
          have HALLS := hid_ (fun (w7 : World) (h7 : Ex w6 w7) => (⟨((H6.out.later h7).set1 y (t : Int)).b1, ((H6.out.later h7).set1 y (t : Int)).ex.cell D0.out, ((H6.out.later h7).set1 y (t : Int)).ex.cell (HX02.out.cell CPW.out), ((H6.out.later h7).set1 y (t : Int)).ex.cell C0.out, ((H6.out.later h7).set1 y (t : Int)).ex.cell C1.out, ((H6.out.later h7).set1 y (t : Int)).ex.cell C2.out, ((H6.out.later h7).set1 y (t : Int)).ex.cell D1.out, ((H6.out.later h7).set1 y (t : Int)).ex.cell (HX02.out.cell CSW.out)⟩ : (w7.setCell ⟨h, y, none⟩ (.int .i64 (t : Int))).cell? ⟨B, 1, none⟩ = some (.slice (some ⟨h, 0, none⟩) pl.length pl.length) ∧ (w7.setCell ⟨h, y, none⟩ (.int .i64 (t : Int))).cell? ⟨q + 1, 0, none⟩ = some (.slice (some ⟨pb, po, none⟩) pl.length pc) ∧ (w7.setCell ⟨h, y, none⟩ (.int .i64 (t : Int))).cell? ⟨pb, po + i, none⟩ = some (.int .i64 (y : Int)) ∧ (w7.setCell ⟨h, y, none⟩ (.int .i64 (t : Int))).cell? ⟨q, 0, none⟩ = some (.int .i64 (pn : Int)) ∧ (w7.setCell ⟨h, y, none⟩ (.int .i64 (t : Int))).cell? ⟨q, 1, none⟩ = some (.int .i64 (mn : Int)) ∧ (w7.setCell ⟨h, y, none⟩ (.int .i64 (t : Int))).cell? ⟨q, 2, none⟩ = some (.slice ma ml.length mc) ∧ (w7.setCell ⟨h, y, none⟩ (.int .i64 (t : Int))).cell? ⟨q + 1, 1, none⟩ = some (.slice (some ⟨sb, so, none⟩) pl.length sc) ∧ (w7.setCell ⟨h, y, none⟩ (.int .i64 (t : Int))).cell? ⟨sb, so + i, none⟩ = some (.int .i64 (s : Int))))
          have G0 : Ex w6 w6.drew := (Ex.refl w6).drew
          go_wp2_with fail
          go_region_held3 (fun w' => w'.cell? ⟨B, 1, none⟩ = some (.slice (some ⟨h, 0, none⟩) pl.length pl.length) ∧ w'.cell? ⟨q + 1, 0, none⟩ = some (.slice (some ⟨pb, po, none⟩) pl.length pc) ∧ w'.cell? ⟨pb, po + i, none⟩ = some (.int .i64 (y : Int)) ∧ w'.cell? ⟨q, 0, none⟩ = some (.int .i64 (pn : Int)) ∧ w'.cell? ⟨q, 1, none⟩ = some (.int .i64 (mn : Int)) ∧ w'.cell? ⟨q, 2, none⟩ = some (.slice ma ml.length mc) ∧ w'.cell? ⟨q + 1, 1, none⟩ = some (.slice (some ⟨sb, so, none⟩) pl.length sc) ∧ w'.cell? ⟨sb, so + i, none⟩ = some (.int .i64 (s : Int)))
            (first | with_reducible exact HALL.out _ G0 | with_reducible exact HALL.out _ X7 | with_reducible exact HALL.out _ X8 | with_reducible exact HALLS.out _ X8)
            (first | (go_at_call 41; (with_reducible refine (HGW.out _ (H6.out.ex.trans G0)).mono ?_); rintro e w7 ⟨rfl, h7⟩; have X7 := G0.trans h7; clear h7) | (go_at_call 54; (with_reducible refine (HFW.out _ (H6.out.ex.trans X7)).mono ?_); rintro e w8 ⟨rfl, h8⟩; have X8 := X7.trans h8; clear h8; have co8 := (H6.out.later X8).o1.cell HYN.out; have cf8 := (H6.out.later X8).o1.frz y))
          go_wp2_with fail
          go_roundw
          case rel => first | exact ⟨i + 1, by omega, by go_num, hid_ (HV2.out ▸ (H6.out.later X8).set1 y (t : Int))⟩ | ((repeat apply Exists.intro); exact ⟨⟨i + 1, by omega, by go_num, hid_ (HV2.out ▸ (H6.out.later X8).set1 y (t : Int))⟩, rfl⟩)
          case measure => simp [intOf]; omega
        · obtain rfl : i = pl.length := by omega
          have HIE := hid_ hiv.out
          have k0 := hiv.out.b0
          have k1 := hiv.out.b1
          have k2 := hiv.out.b2
          have X0 := hid_ (HX02.out.trans hiv.out.ex)
          have HQB := hid_ (show q + 1 + 1 < g ∧ q + 1 + 1 < h from by have := hiv.out.o0.lt; have := hiv.out.o1.lt; have := HX2.out.size; have := HQS.out; omega)
          obtain ⟨q0, q1, q2, qf0, qf1, qf2⟩ := BQ.out.ex (HX2.out.trans hiv.out.ex)
          clear hiv
          go_wp2_with fail
          subst hMD
          exact bodyPost_ret (v := .tuple #[.agg #[.slice (some ⟨g, 0, none⟩) pl.length pl.length, .slice (some ⟨h, 0, none⟩) pl.length pl.length, .int .i64 bk], .int .i64 0]) (by simp [results, Tryz.results18, go_sem, q0, q1, q2]) rfl ⟨⟨_, _, rfl, set3_isl HIE.out.o0.isl (by intro X e; have e9 : g = X := Option.some.inj e; have := HQB.out.1; omega) _ _ _, set3_isl HIE.out.o1.isl (by intro X e; have e9 : h = X := Option.some.inj e; have := HQB.out.2; omega) _ _ _⟩, set3_ex X0.out HQW.out _ _ _⟩
  · rw [if_pos h0] at hMD
    subst hMD
    have hb : (E != 0) = true := by simpa using h0
    clear h0
    go_wp2_with fail
    exact bodyPost_ret (v := .tuple #[.agg #[.slice none 0 0, .slice none 0 0, .int .i64 0], .int .i64 E]) (by simp [results, Tryz.results18, go_sem, q0, q1, q2]) rfl ⟨⟨_, _, rfl, isl_nil _, isl_nil _⟩, set3_ex (HE.out.trans HX2.out) HQW.out _ _ _⟩
end Go.Proofs.YtgdmlmhpineibaaGreat
