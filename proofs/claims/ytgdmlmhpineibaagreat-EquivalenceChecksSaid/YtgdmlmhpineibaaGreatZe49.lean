/- Walk of codewrightref31.shows (printed by gen_shw.py). -/
import Derived.Deep.CutRange
import Derived.Test.YtgdmlmhpineibaaGreatZe41
import Derived.Test.YtgdmlmhpineibaaGreatZe48
namespace Go.Proofs.YtgdmlmhpineibaaGreat
set_option linter.unusedVariables false
set_option linter.unusedSimpArgs false
set_option maxRecDepth 100000
set_option maxHeartbeats 8000000
open Go.RowKit
theorem rShows_any {p m n : Nat} {ml : List Int} {l1 l2 : List (List Int)} (w : World) (hf : FSh p m ml) (hF : IsF p m (lw ml)) (hn : n ≤ 64) (h1 : ∀ r ∈ l1,r.length = n ∧ entS (p ^ m) r = 0) (h2 : ∀ r ∈ l2,r.length = n ∧ entS (p ^ m) r = 0) (k1 : l1.length ≤ 256) (k2 : l2.length ≤ 256)
  (m1 m2 v1 v2 : Value) (hm1 : ISl w m1 ml) (hv1 : MSl w v1 l1) (hm2 : ISl w m2 ml) (hv2 : MSl w v2 l2) (tl sl : List Int) (tv sv : Value) (ht : ISl w tv tl) (hs : ISl w sv sl) (hsl : sl.length = tl.length) (K : Nat) (hK : tl.length = K) (htn : K ≤ n) (hrg : rngB tl n = true)
  (side : Int) (hsd : side = 0 ∨ side = 1) (msg : List Int) (gv : Value) (hg : ISl w gv msg) :
  Calls Tryz.prog 117 #[.agg #[.int .i64 p,.int .i64 m,m1,.int .i64 n,v1],.agg #[.int .i64 p,.int .i64 m,m2,.int .i64 n,v2],.agg #[tv,sv],.int .i64 side,gv] w fun r w' => r = .returned (.bool (shwB p m ml l1 l2 tl sl side msg)) ∧ Ex w w' := by
 obtain ⟨c0,c1,c2,c3,c4,ea⟩ := boxC_facts w p m m1 n v1;obtain ⟨d0,d1,d2,d3,d4,eb⟩ := boxC_facts (w.alloc (.cells #[.int .i64 p,.int .i64 m,m1,.int .i64 n,v1] 47)) p m m2 n v2;have asz : (w.alloc (.cells #[.int .i64 p,.int .i64 m,m1,.int .i64 n,v1] 47)).heap.size = w.heap.size + 1 := by simp
 have bsz : ((w.alloc (.cells #[.int .i64 p,.int .i64 m,m1,.int .i64 n,v1] 47)).alloc (.cells #[.int .i64 p,.int .i64 m,m2,.int .i64 n,v2] 47)).heap.size = w.heap.size + 1 + 1 := by simp
 obtain ⟨b0,b1,ec,-⟩ := boxP_facts ((w.alloc (.cells #[.int .i64 p,.int .i64 m,m1,.int .i64 n,v1] 47)).alloc (.cells #[.int .i64 p,.int .i64 m,m2,.int .i64 n,v2] 47)) tv sv;rw [asz] at d0 d1 d2 d3 d4;rw [bsz] at b0 b1;replace c0 := (eb.trans ec).cell c0;replace c1 := (eb.trans ec).cell c1;replace c2 := (eb.trans ec).cell c2;replace c3 := (eb.trans ec).cell c3;replace c4 := (eb.trans ec).cell c4;replace d0 := ec.cell d0;replace d1 := ec.cell d1;replace d2 := ec.cell d2;replace d3 := ec.cell d3;replace d4 := ec.cell d4;have HX := hid_ (ea.trans (eb.trans ec));have hW : Two p m ml n l1 l2 := ⟨hf.p2,hf.m1,hF,h1,h2⟩;have HW0 := hid_ (hW.shw0 (sc := sl) hf hrg msg);have HW1 := hid_ (hW.shw1 (sc := sl) hf hrg msg);have HSI := hid_ (fun (w' : World) (h : Ex w w') => rSides_any w' hf hF hn h1 h2 k1 k2 m1 m2 v1 v2 (hm1.ex h) (hv1.ex h) (hm2.ex h) (hv2.ex h) tl sl tv sv (ht.ex h) (hs.ex h) hsl K hK htn hrg);have HL1 := hid_ (fun (w' : World) (h : Ex w w') => rListG_any (p := p) (m := m) (mv := m1) w' msg gv (hg.ex h) l1.length);have HL2 := hid_ (fun (w' : World) (h : Ex w w') => rListG_any (p := p) (m := m) (mv := m2) w' msg gv (hg.ex h) l2.length);have HB1 := hid_ (fun (w' : World) (h : Ex w w') (hl : msg.length = l1.length) => rComb_any (mv := m1) w' hf (hm1.ex h) n l1.length (by omega) k1 (rowsF l1) msg hl gv (hg.ex h) v1 (by rw [rowsL_rowsF fun r hr => (h1 r hr).1];exact hv1.ex h));have HB2 := hid_ (fun (w' : World) (h : Ex w w') (hl : msg.length = l2.length) => rComb_any (mv := m2) w' hf (hm2.ex h) n l2.length (by omega) k2 (rowsF l2) msg hl gv (hg.ex h) v2 (by rw [rowsL_rowsF fun r hr => (h2 r hr).1];exact hv2.ex h));have HC1 := hid_ (cmb_cmbK (m := m) (ml := ml) hf.p2 msg l1 l1.length);have HC2 := hid_ (cmb_cmbK (m := m) (ml := ml) hf.p2 msg l2 l2.length);have HMP := hid_ (show ∀ (w' : World) (h : Ex w w') (f : Nat → Int) (xv : Value) (hx : ISl w' xv (il n f)),Calls Tryz.prog 147 #[.agg #[.int .i64 p,.int .i64 m,m1],.agg #[tv,sv],xv] w' (fun r w'' => ∃ g,r = .returned (.slice (some ⟨g,0,none⟩) K K) ∧ ISl w'' (.slice (some ⟨g,0,none⟩) K K) (il K (mpF p m ml sl f)) ∧ Ex w' w'') from fun w' h f xv hx => by
  refine (rMapped_any w' hf (hm1.ex h) tl sl (il n f) tv sv xv (ht.ex h) (hs.ex h) hx hsl (by rw [il_len];omega) K hK (by omega)).mono ?_;rintro r w'' ⟨g,h3,h4,h5⟩;exact ⟨g,h3,(h4.icongr (h := mpF p m ml sl f) fun j hj => mpF_il htn j hj).isl,h5⟩)
 have HPK := hid_ (show ∀ (w' : World) (h : Ex w w') (f : Nat → Int) (xv : Value) (hx : ISl w' xv (il n f)),Calls Tryz.prog 149 #[xv,tv] w' (fun r w'' => ∃ g,r = .returned (.slice (some ⟨g,0,none⟩) K K) ∧ ISl w'' (.slice (some ⟨g,0,none⟩) K K) (il K (seF tl f)) ∧ Ex w' w'') from fun w' h f xv hx => by
  refine (rPick_any w' (il n f) tl xv tv hx (ht.ex h) (by omega) fun x hx' => by
   have := List.all_eq_true.1 (show (tl.all fun x => decide (0 ≤ x ∧ x < (n : Int))) = true from hrg) x hx';rw [il_len];simp at this;omega).mono ?_
  rintro r w'' ⟨g,h3,h4,h5⟩;rw [hK] at h3 h4;exact ⟨g,h3,(h4.icongr (h := seF tl f) fun j hj => seF_il hK hrg j hj).isl,h5⟩)
 have HIN := hid_ (fun (w' : World) (h : Ex w w') (R : Nat) (a aa : Nat → Nat → Int) (pa : List Nat) (hR : R ≤ 256) (hel : ElO p m ml K R a aa pa) (rv : Value) (hr : MSl w' rv (rowsL K pa.length aa)) (f : Nat → Int) (hfr : EntR p m K f) (v : Value) (hv : ISl w' v (il K f)) => rInS_any (mv := m1) w' hf (hm1.ex h) K (by omega) hR hel rv hr f hfr v hv);have HE1 := hid_ (show EntR p m K (mpF p m ml sl (cmbK p m ml msg l1 l1.length)) from mpF_rng hf.p2 _ _ _);have HE2 := hid_ (show EntR p m K (seF tl (cmbK p m ml msg l2 l2.length)) from by rw [← hK];exact seF_rng hrg fun j _ => cmbK_rng hf.p2 _ _ _ _);have HLE := hid_ (fun (R : Nat) (h : lisG p m msg R = 0) => Classical.byContradiction fun h' => (lis_iff hf msg R).1 h (.inl h'));have HV1 := hid_ (lis_val hf msg l1.length);have HV2 := hid_ (lis_val hf msg l2.length);rw [hK] at HW0 HW1;obtain ⟨x1,y1,rfl,-,z1,-⟩ := hv1.open;obtain ⟨x2,y2,rfl,-,z2,-⟩ := hv2.open;obtain ⟨x3,y3,rfl,-,z3,-⟩ := hm1.open;obtain ⟨x4,y4,rfl,-,z4,-⟩ := hm2.open;obtain ⟨ta,tc,rfl,-,t2,-⟩ := ht.open;obtain ⟨sa,sc,rfl,-,s2,-⟩ := hs.open;obtain ⟨ga,gc,rfl,-,g2,-⟩ := hg.open;unfold maxLen at t2 s2 z1 z2 z3 z4 g2;obtain ⟨B,hB⟩ : ∃ B,w.heap.size = B := ⟨_,rfl⟩;rw [hB] at c0 c1 c2 c3 c4 d0 d1 d2 d3 d4 b0 b1;rw [hK] at c0 c1 c2 c3 c4 d0 d1 d2 d3 d4 b0 b1 HX HSI HPK HMP ⊢;obtain ⟨SH,hSH⟩ : ∃ S,shwB p m ml l1 l2 tl sl side msg = S := ⟨_,rfl⟩;rw [hSH];have HSH := hid_ hSH;obtain ⟨E1,hE1⟩ : ∃ E,lisG p m msg l1.length = E := ⟨_,rfl⟩;obtain ⟨E2,hE2⟩ : ∃ E,lisG p m msg l2.length = E := ⟨_,rfl⟩;rw [hE1] at HL1 HW0 HV1;rw [hE2] at HL2 HW1 HV2;have HQ1 := hid_ hE1;have HQ2 := hid_ hE2;have HSD := hid_ hsd;have HKK := hid_ (show l1.length ≤ 256 ∧ l2.length ≤ 256 from ⟨k1,k2⟩);clear hf hF h1 h2 hm1 hv1 hm2 hv2 ht hs hg hsl hK htn hrg ea eb ec asz bsz hW hSH hE1 hE2 hsd k1 k2;go_enter Tryz.func117,Tryz.ntmps117
 go_upto_region 1 with fail
 try simp only [hB]
 clear hB;generalize ((w.alloc (.cells #[.int .i64 p,.int .i64 m,.slice x3 ml.length y3,.int .i64 n,.slice x1 l1.length y1] 47)).alloc (.cells #[.int .i64 p,.int .i64 m,.slice x4 ml.length y4,.int .i64 n,.slice x2 l2.length y2] 47)).alloc (.cells #[.slice ta K tc,.slice sa sl.length sc] 49) = w1 at *;have HALL := hid_ (fun w' (h : Ex w1 w') => (⟨h.cell c0,h.cell c1,h.cell c2,h.cell c3,h.cell c4,h.cell d0,h.cell d1,h.cell d2,h.cell d3,h.cell d4,h.cell b0,h.cell b1⟩ : w'.cell? ⟨B,0,none⟩ = some (.int .i64 (p : Int)) ∧ w'.cell? ⟨B,1,none⟩ = some (.int .i64 (m : Int)) ∧ w'.cell? ⟨B,2,none⟩ = some (.slice x3 ml.length y3) ∧ w'.cell? ⟨B,3,none⟩ = some (.int .i64 (n : Int)) ∧ w'.cell? ⟨B,4,none⟩ = some (.slice x1 l1.length y1) ∧ w'.cell? ⟨B + 1,0,none⟩ = some (.int .i64 (p : Int)) ∧ w'.cell? ⟨B + 1,1,none⟩ = some (.int .i64 (m : Int)) ∧ w'.cell? ⟨B + 1,2,none⟩ = some (.slice x4 ml.length y4) ∧ w'.cell? ⟨B + 1,3,none⟩ = some (.int .i64 (n : Int)) ∧ w'.cell? ⟨B + 1,4,none⟩ = some (.slice x2 l2.length y2) ∧ w'.cell? ⟨B + 1 + 1,0,none⟩ = some (.slice ta K tc) ∧ w'.cell? ⟨B + 1 + 1,1,none⟩ = some (.slice sa sl.length sc)));go_wp2_with fail
 refine (HSI.out w1 HX.out).mono ?_;rintro e w2 ⟨⟨av,bv,pa,pb,aa,ab,rfl,hea,heb,hav,hbv⟩,hx2⟩;obtain ⟨ra,rc,rfl,-,-,-⟩ := hav.open;obtain ⟨qa,qc,rfl,-,-,-⟩ := hbv.open;have HEA := hid_ hea;have HEB := hid_ heb;have HAV := hid_ hav;have HBV := hid_ hbv;have HX2 := hid_ hx2;obtain ⟨LA,hLA⟩ : ∃ L,rowsL K pa.length aa = L := ⟨_,rfl⟩;obtain ⟨LB,hLB⟩ : ∃ L,rowsL K pb.length ab = L := ⟨_,rfl⟩;have HLA := hid_ hLA;have HLB := hid_ hLB;rw [hLA] at HAV ⊢;rw [hLB] at HBV ⊢;clear c0 c1 c2 c3 c4 d0 d1 d2 d3 d4 b0 b1 hea heb hav hbv hx2 hLA hLB HSI;have HAL := hid_ (fun w' (h : Ex w2 w') => HALL.out w' (HX2.out.trans h));have G0 : Ex w2 w2.drew := (Ex.refl w2).drew;have HG0 := hid_ (HX.out.trans (HX2.out.trans G0));rcases HSD.out with rfl | rfl
 ·have kb : ((0 : Int) == 0) = true := by decide
  by_cases hE : E1 = 0
  rotate_left
  ·have HR := hid_ (show SH = false from by
    cases hh : SH with
    | false => rfl
    | true => exact absurd (HW0.out.1 (HSH.out.trans hh)).1 hE)
   have b0 : (E1 == 0) = false := by simpa using hE
   go_upto_region 3 with fail
   refine wp_region_pv (fun k => ([.pointer (some ⟨B,0,none⟩),.agg #[.int .i64 (p : Int),.int .i64 (m : Int),.slice x3 ml.length y3],.slice ga msg.length gc,.pointer (some ⟨B,4,none⟩),.slice x1 l1.length y1,.int .i64 (l1.length : Int),.int .i64 E1,.bool false,.bool false,undef,undef,undef,undef,undef,undef,undef,undef,undef,undef,undef,undef,undef,undef,undef,undef,undef,.bool false,.bool false] : List Value).getD k undef) (by kernel_rfl) (by kernel_rfl) (by kernel_rfl) ?_ ?_
   ·simp only [StepAll];refine ⟨?_,?_,?_,?_,?_,?_,?_,?_,?_,?_,?_,?_,?_,?_,?_,?_,?_,?_,?_,?_,?_,?_,?_,?_,?_,?_,?_,?_,trivial⟩
    ·refine OpPv.on rfl fun L a w hin hout hd hx K hK => ?_;have e5 : a.tmps[5]? = some (.pointer (some ⟨B,0,none⟩)) := hout 5 (by kernel_rfl);clear hin hout hd;go_simp;exact hK _ (Ex.refl w)
    ·refine OpPv.on rfl fun L a w hin hout hd hx K hK => ?_;have e22 := hin 0 22 _ (hd ⟨0,.data⟩ (by simp) rfl) rfl rfl;obtain ⟨c0,c1,c2,c3,c4,d0,d1,d2,d3,d4,b0,b1⟩ := HAL.out _ hx;clear hin hout hd;go_simp;exact hK _ (Ex.refl w)
    ·refine OpPv.on rfl fun L a w hin hout hd hx K hK => ?_;have e4 : a.tmps[4]? = some (.slice ga msg.length gc) := hout 4 (by kernel_rfl);clear hin hout hd;go_simp;exact hK _ (Ex.refl w)
    ·refine OpPv.on rfl fun L a w hin hout hd hx K hK => ?_;have e5 : a.tmps[5]? = some (.pointer (some ⟨B,0,none⟩)) := hout 5 (by kernel_rfl);clear hin hout hd;go_simp;exact hK _ (Ex.refl w)
    ·refine OpPv.on rfl fun L a w hin hout hd hx K hK => ?_;have e25 := hin 3 25 _ (hd ⟨3,.data⟩ (by simp) rfl) rfl rfl;obtain ⟨c0,c1,c2,c3,c4,d0,d1,d2,d3,d4,b0,b1⟩ := HAL.out _ hx;clear hin hout hd;go_simp;exact hK _ (Ex.refl w)
    ·refine OpPv.on rfl fun L a w hin hout hd hx K hK => ?_;have e26 := hin 4 26 _ (hd ⟨4,.data⟩ (by simp) rfl) rfl rfl;clear hin hout hd;go_simp;exact hK _ (Ex.refl w)
    ·refine OpPv.on rfl fun L a w hin hout hd hx K hK => ?_;have e23 := hin 1 23 _ (hd ⟨1,.data⟩ (by simp) rfl) rfl rfl;have e24 := hin 2 24 _ (hd ⟨2,.data⟩ (by simp) rfl) rfl rfl;have e27 := hin 5 27 _ (hd ⟨5,.data⟩ (by simp) rfl) rfl rfl;clear hin hout hd;go_simp
     (with_reducible refine (HL1.out _ (HX.out.trans (HX2.out.trans hx))).mono ?_);rintro e w3 ⟨rfl,hx3⟩;exact hK _ hx3
    ·refine OpPv.on rfl fun L a w hin hout hd hx K hK => ?_;have e28 := hin 6 28 _ (hd ⟨6,.data⟩ (by simp) rfl) rfl rfl;clear hin hout hd;go_simp;exact hK _ (Ex.refl w)
    ·refine OpPv.on rfl fun L a w hin hout hd hx K hK => ?_;have e29 := hin 7 29 _ (hd ⟨7,.data⟩ (by simp) rfl) rfl rfl;clear hin hout hd;go_simp;exact hK _ (Ex.refl w)
    ·exact OpPv.off rfl rfl
    ·exact OpPv.off rfl rfl
    ·exact OpPv.off rfl rfl
    ·exact OpPv.off rfl rfl
    ·exact OpPv.off rfl rfl
    ·exact OpPv.off rfl rfl
    ·exact OpPv.off rfl rfl
    ·exact OpPv.off rfl rfl
    ·exact OpPv.off rfl rfl
    ·exact OpPv.off rfl rfl
    ·exact OpPv.off rfl rfl
    ·exact OpPv.off rfl rfl
    ·exact OpPv.off rfl rfl
    ·exact OpPv.off rfl rfl
    ·exact OpPv.off rfl rfl
    ·exact OpPv.off rfl rfl
    ·exact OpPv.off rfl rfl
    ·refine OpPv.on rfl fun L a w hin hout hd hx K hK => ?_;have e30 := hin 8 30 _ (hd ⟨8,.data⟩ (by simp) rfl) rfl rfl;have e47 := hin 25 47 _ (hd ⟨25,.data⟩ (by simp) rfl) rfl rfl;clear hin hout hd;go_simp;exact hK _ (Ex.refl w)
    ·refine OpPv.on rfl fun L a w hin hout hd hx K hK => ?_;have e48 := hin 26 48 _ (hd ⟨26,.data⟩ (by simp) rfl) rfl rfl;clear hin hout hd;go_simp;exact hK _ (Ex.refl w)
   ·intro w3 hx3;have HX3 := hid_ hx3;clear hx3;simp only [putK,Act.put,List.setIfInBounds_toArray,List.set_cons_zero,List.set_cons_succ];go_wp2_with fail
    go_ret;exact ⟨by rw [HR.out];rfl,HX.out.trans (HX2.out.trans HX3.out)⟩
  ·have hmsg := HLE.out _ (HQ1.out.trans hE);subst hE;have HMS := hid_ hmsg;clear hmsg;go_wp2_with fail
   go_region_held3 (fun w' => w'.cell? ⟨B,0,none⟩ = some (.int .i64 (p : Int)) ∧ w'.cell? ⟨B,1,none⟩ = some (.int .i64 (m : Int)) ∧ w'.cell? ⟨B,2,none⟩ = some (.slice x3 ml.length y3) ∧ w'.cell? ⟨B,3,none⟩ = some (.int .i64 (n : Int)) ∧ w'.cell? ⟨B,4,none⟩ = some (.slice x1 l1.length y1) ∧ w'.cell? ⟨B + 1,0,none⟩ = some (.int .i64 (p : Int)) ∧ w'.cell? ⟨B + 1,1,none⟩ = some (.int .i64 (m : Int)) ∧ w'.cell? ⟨B + 1,2,none⟩ = some (.slice x4 ml.length y4) ∧ w'.cell? ⟨B + 1,3,none⟩ = some (.int .i64 (n : Int)) ∧ w'.cell? ⟨B + 1,4,none⟩ = some (.slice x2 l2.length y2) ∧ w'.cell? ⟨B + 1 + 1,0,none⟩ = some (.slice ta K tc) ∧ w'.cell? ⟨B + 1 + 1,1,none⟩ = some (.slice sa sl.length sc))
    (first | with_reducible exact HAL.out _ X6 | with_reducible exact HAL.out _ X5 | with_reducible exact HAL.out _ X4 | with_reducible exact HAL.out _ X3 | with_reducible exact HAL.out _ G0)
    (first
          | (go_at_call 25;(with_reducible refine (HL1.out _ HG0.out).mono ?_);rintro e w3 ⟨rfl,hx3⟩;have X3 := G0.trans hx3;have H3 := hid_ (HX.out.trans (HX2.out.trans X3));clear hx3)
          | (go_at_call 155;(with_reducible refine (HB1.out _ H3.out HMS.out).mono ?_);rintro e w4 ⟨ov,rfl,hov,hx4⟩;rw [HC1.out] at hov;have X4 := X3.trans hx4;have H4 := hid_ (HX.out.trans (HX2.out.trans X4));have HOV := hid_ hov;obtain ⟨oa,oc,rfl,-,-,-⟩ := hov.open;clear hov hx4)
          | (go_at_call 147;(with_reducible refine (HMP.out _ H4.out _ _ HOV.out).mono ?_);rintro e w5 ⟨g5,rfl,hmp,hx5⟩;have X5 := X4.trans hx5;have H5 := hid_ (HX.out.trans (HX2.out.trans X5));have HMV := hid_ hmp;clear hmp hx5)
          | (go_at_call 146;(with_reducible refine (HIN.out _ H5.out _ _ _ _ HKK.out.2 HEB.out _ (by rw [HLB.out];exact HBV.out.ex X5) _ HE1.out _ HMV.out).mono ?_);rintro e w6 ⟨⟨bb,rfl,hbb⟩,hx6⟩;have X6 := X5.trans hx6;have HX6 := hid_ X6;have HBB := hid_ hbb;clear hbb hx6))
   all_goals
    have HR := hid_ (show SH = !bb from by
     have h0 := HW0.out;rw [HSH.out] at h0
     cases hb : bb with
     | true => cases hs : SH with
      | false => rfl
      | true => exact absurd (HBB.out.1 hb) (h0.1 hs).2
     | false => cases hs : SH with
      | true => rfl
      | false =>
       exfalso;have : SH = true := h0.2 ⟨by first | rfl | trivial,fun h => by have := HBB.out.2 h;rw [hb] at this;cases this⟩;rw [hs] at this;cases this)
    go_wp2_with fail
    go_ret;exact ⟨by rw [HR.out];rfl,HX.out.trans (HX2.out.trans HX6.out)⟩
 ·have kb : ((1 : Int) == 0) = false := by decide
  by_cases hE : E2 = 0
  rotate_left
  ·have HR := hid_ (show SH = false from by
    cases hh : SH with
    | false => rfl
    | true => exact absurd (HW1.out.1 (HSH.out.trans hh)).1 hE)
   have b0 : (E2 == 0) = false := by simpa using hE
   go_upto_region 4 with fail
   refine wp_region_pv (fun k => ([.pointer (some ⟨B + 1,0,none⟩),.agg #[.int .i64 (p : Int),.int .i64 (m : Int),.slice x4 ml.length y4],.slice ga msg.length gc,.pointer (some ⟨B + 1,4,none⟩),.slice x2 l2.length y2,.int .i64 (l2.length : Int),.int .i64 E2,.bool false,.bool false,undef,undef,undef,undef,undef,undef,undef,undef,undef,undef,undef,undef,undef,undef,undef,undef,.bool false,.bool false] : List Value).getD k undef) (by kernel_rfl) (by kernel_rfl) (by kernel_rfl) ?_ ?_
   ·simp only [StepAll];refine ⟨?_,?_,?_,?_,?_,?_,?_,?_,?_,?_,?_,?_,?_,?_,?_,?_,?_,?_,?_,?_,?_,?_,?_,?_,?_,?_,?_,trivial⟩
    ·refine OpPv.on rfl fun L a w hin hout hd hx K hK => ?_;have e6 : a.tmps[6]? = some (.pointer (some ⟨B + 1,0,none⟩)) := hout 6 (by kernel_rfl);clear hin hout hd;go_simp;exact hK _ (Ex.refl w)
    ·refine OpPv.on rfl fun L a w hin hout hd hx K hK => ?_;have e49 := hin 0 49 _ (hd ⟨0,.data⟩ (by simp) rfl) rfl rfl;obtain ⟨c0,c1,c2,c3,c4,d0,d1,d2,d3,d4,b0,b1⟩ := HAL.out _ hx;clear hin hout hd;go_simp;exact hK _ (Ex.refl w)
    ·refine OpPv.on rfl fun L a w hin hout hd hx K hK => ?_;have e4 : a.tmps[4]? = some (.slice ga msg.length gc) := hout 4 (by kernel_rfl);clear hin hout hd;go_simp;exact hK _ (Ex.refl w)
    ·refine OpPv.on rfl fun L a w hin hout hd hx K hK => ?_;have e6 : a.tmps[6]? = some (.pointer (some ⟨B + 1,0,none⟩)) := hout 6 (by kernel_rfl);clear hin hout hd;go_simp;exact hK _ (Ex.refl w)
    ·refine OpPv.on rfl fun L a w hin hout hd hx K hK => ?_;have e52 := hin 3 52 _ (hd ⟨3,.data⟩ (by simp) rfl) rfl rfl;obtain ⟨c0,c1,c2,c3,c4,d0,d1,d2,d3,d4,b0,b1⟩ := HAL.out _ hx;clear hin hout hd;go_simp;exact hK _ (Ex.refl w)
    ·refine OpPv.on rfl fun L a w hin hout hd hx K hK => ?_;have e53 := hin 4 53 _ (hd ⟨4,.data⟩ (by simp) rfl) rfl rfl;clear hin hout hd;go_simp;exact hK _ (Ex.refl w)
    ·refine OpPv.on rfl fun L a w hin hout hd hx K hK => ?_;have e50 := hin 1 50 _ (hd ⟨1,.data⟩ (by simp) rfl) rfl rfl;have e51 := hin 2 51 _ (hd ⟨2,.data⟩ (by simp) rfl) rfl rfl;have e54 := hin 5 54 _ (hd ⟨5,.data⟩ (by simp) rfl) rfl rfl;clear hin hout hd;go_simp
     (with_reducible refine (HL2.out _ (HX.out.trans (HX2.out.trans hx))).mono ?_);rintro e w3 ⟨rfl,hx3⟩;exact hK _ hx3
    ·refine OpPv.on rfl fun L a w hin hout hd hx K hK => ?_;have e55 := hin 6 55 _ (hd ⟨6,.data⟩ (by simp) rfl) rfl rfl;clear hin hout hd;go_simp;exact hK _ (Ex.refl w)
    ·refine OpPv.on rfl fun L a w hin hout hd hx K hK => ?_;have e56 := hin 7 56 _ (hd ⟨7,.data⟩ (by simp) rfl) rfl rfl;clear hin hout hd;go_simp;exact hK _ (Ex.refl w)
    ·exact OpPv.off rfl rfl
    ·exact OpPv.off rfl rfl
    ·exact OpPv.off rfl rfl
    ·exact OpPv.off rfl rfl
    ·exact OpPv.off rfl rfl
    ·exact OpPv.off rfl rfl
    ·exact OpPv.off rfl rfl
    ·exact OpPv.off rfl rfl
    ·exact OpPv.off rfl rfl
    ·exact OpPv.off rfl rfl
    ·exact OpPv.off rfl rfl
    ·exact OpPv.off rfl rfl
    ·exact OpPv.off rfl rfl
    ·exact OpPv.off rfl rfl
    ·exact OpPv.off rfl rfl
    ·exact OpPv.off rfl rfl
    ·refine OpPv.on rfl fun L a w hin hout hd hx K hK => ?_;have e57 := hin 8 57 _ (hd ⟨8,.data⟩ (by simp) rfl) rfl rfl;have e73 := hin 24 73 _ (hd ⟨24,.data⟩ (by simp) rfl) rfl rfl;clear hin hout hd;go_simp;exact hK _ (Ex.refl w)
    ·refine OpPv.on rfl fun L a w hin hout hd hx K hK => ?_;have e74 := hin 25 74 _ (hd ⟨25,.data⟩ (by simp) rfl) rfl rfl;clear hin hout hd;go_simp;exact hK _ (Ex.refl w)
   ·intro w3 hx3;have HX3 := hid_ hx3;clear hx3;simp only [putK,Act.put,List.setIfInBounds_toArray,List.set_cons_zero,List.set_cons_succ];go_wp2_with fail
    go_ret;exact ⟨by rw [HR.out];rfl,HX.out.trans (HX2.out.trans HX3.out)⟩
  ·have hmsg := HLE.out _ (HQ2.out.trans hE);subst hE;have HMS := hid_ hmsg;clear hmsg;go_wp2_with fail
   go_region_held3 (fun w' => w'.cell? ⟨B,0,none⟩ = some (.int .i64 (p : Int)) ∧ w'.cell? ⟨B,1,none⟩ = some (.int .i64 (m : Int)) ∧ w'.cell? ⟨B,2,none⟩ = some (.slice x3 ml.length y3) ∧ w'.cell? ⟨B,3,none⟩ = some (.int .i64 (n : Int)) ∧ w'.cell? ⟨B,4,none⟩ = some (.slice x1 l1.length y1) ∧ w'.cell? ⟨B + 1,0,none⟩ = some (.int .i64 (p : Int)) ∧ w'.cell? ⟨B + 1,1,none⟩ = some (.int .i64 (m : Int)) ∧ w'.cell? ⟨B + 1,2,none⟩ = some (.slice x4 ml.length y4) ∧ w'.cell? ⟨B + 1,3,none⟩ = some (.int .i64 (n : Int)) ∧ w'.cell? ⟨B + 1,4,none⟩ = some (.slice x2 l2.length y2) ∧ w'.cell? ⟨B + 1 + 1,0,none⟩ = some (.slice ta K tc) ∧ w'.cell? ⟨B + 1 + 1,1,none⟩ = some (.slice sa sl.length sc))
    (first | with_reducible exact HAL.out _ X6 | with_reducible exact HAL.out _ X5 | with_reducible exact HAL.out _ X4 | with_reducible exact HAL.out _ X3 | with_reducible exact HAL.out _ G0)
    (first
          | (go_at_call 25;(with_reducible refine (HL2.out _ HG0.out).mono ?_);rintro e w3 ⟨rfl,hx3⟩;have X3 := G0.trans hx3;have H3 := hid_ (HX.out.trans (HX2.out.trans X3));clear hx3)
          | (go_at_call 155;(with_reducible refine (HB2.out _ H3.out HMS.out).mono ?_);rintro e w4 ⟨ov,rfl,hov,hx4⟩;rw [HC2.out] at hov;have X4 := X3.trans hx4;have H4 := hid_ (HX.out.trans (HX2.out.trans X4));have HOV := hid_ hov;obtain ⟨oa,oc,rfl,-,-,-⟩ := hov.open;clear hov hx4)
          | (go_at_call 149;(with_reducible refine (HPK.out _ H4.out _ _ HOV.out).mono ?_);rintro e w5 ⟨g5,rfl,hmp,hx5⟩;have X5 := X4.trans hx5;have H5 := hid_ (HX.out.trans (HX2.out.trans X5));have HMV := hid_ hmp;clear hmp hx5)
          | (go_at_call 146;(with_reducible refine (HIN.out _ H5.out _ _ _ _ HKK.out.1 HEA.out _ (by rw [HLA.out];exact HAV.out.ex X5) _ HE2.out _ HMV.out).mono ?_);rintro e w6 ⟨⟨bb,rfl,hbb⟩,hx6⟩;have X6 := X5.trans hx6;have HX6 := hid_ X6;have HBB := hid_ hbb;clear hbb hx6))
   all_goals
    have HR := hid_ (show SH = !bb from by
     have h0 := HW1.out;rw [HSH.out] at h0
     cases hb : bb with
     | true => cases hs : SH with
      | false => rfl
      | true => exact absurd (HBB.out.1 hb) (h0.1 hs).2
     | false => cases hs : SH with
      | true => rfl
      | false =>
       exfalso;have : SH = true := h0.2 ⟨by first | rfl | trivial,fun h => by have := HBB.out.2 h;rw [hb] at this;cases this⟩;rw [hs] at this;cases this)
    go_wp2_with fail
    go_ret;exact ⟨by rw [HR.out];rfl,HX.out.trans (HX2.out.trans HX6.out)⟩
end Go.Proofs.YtgdmlmhpineibaaGreat
