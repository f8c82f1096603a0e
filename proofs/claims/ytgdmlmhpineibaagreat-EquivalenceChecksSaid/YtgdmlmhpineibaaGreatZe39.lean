/- Walk of equivalence.CheckRefutation. -/
import Derived.Laws.EntriesVeiled
import Derived.BigQuiet
import Derived.Test.YtgdmlmhpineibaaGreatZe23
import Derived.Test.YtgdmlmhpineibaaGreatZe38
namespace Go.Proofs.YtgdmlmhpineibaaGreat
set_option linter.unusedVariables false
set_option linter.unusedSimpArgs false
set_option maxRecDepth 100000
set_option maxHeartbeats 8000000
section
open Go.RowKit
theorem boxRf (w : World) (ev : Value) : (w.alloc (.cells #[ev] 54)).cell? ⟨w.heap.size,0,none⟩ = some ev := by simp
def flS (c d : CdV) (es : List Rf) (tl sl : List Int) : Nat × Int := flF c.p.toNat c.m.toNat c.ml c.rows d.rows c.n.toNat es (c.n.toNat - tl.length) 0 tl sl
def ckE (E : Int) (R : Nat × Int) (es : List Rf) : Int := if E ≠ 0 then E else if R.2 = 0 ∧ R.1 < es.length then 13 else R.2
theorem CheckRefutation_any (w : World) (c d : CdV) (m1 m2 v1 v2 : Value) (hc : c.at w m1 v1) (hd : d.at w m2 v2) (tl sl : List Int) (tv sv : Value) (ht : ISl w tv tl) (hs : ISl w sv sl) (es : List Rf) (ev : Value) (hr : RSl w ev es) :
  Calls Tryz.prog 34 #[c.arg m1 v1,d.arg m2 v2,.agg #[tv,sv],.agg #[ev]] w fun r w' => (∃ e1 e2 : Int,CodO c.p c.m c.ml c.n c.rows e1 ∧ (e1 = 0 → CodO d.p d.m d.ml d.n d.rows e2) ∧ r = .returned (.int .i64 (ckE (stE e1 e2 (samF c.p c.m c.ml d.p d.m d.ml) c.n d.n tl sl (c.p.toNat ^ c.m.toNat)) (flS c d es tl sl) es))) ∧ Ex w w' := by
 obtain ⟨c0,c1,c2,c3,c4⟩ := boxC5 w c m1 v1;obtain ⟨d0,d1,d2,d3,d4⟩ := boxC5 (w.alloc (c.obj m1 v1)) d m2 v2;obtain ⟨b0,b1,e3,hz3⟩ := boxP_facts ((w.alloc (c.obj m1 v1)).alloc (d.obj m2 v2)) tv sv;have hbm := boxRf (((w.alloc (c.obj m1 v1)).alloc (d.obj m2 v2)).alloc (.cells #[tv,sv] 49)) ev;have hz1 : (w.alloc (c.obj m1 v1)).heap.size = w.heap.size + 1 := by simp
 have hz2 : ((w.alloc (c.obj m1 v1)).alloc (d.obj m2 v2)).heap.size = w.heap.size + 1 + 1 := by simp
 have e1 := e_al w (c.obj m1 v1);have e2 := e_al (w.alloc (c.obj m1 v1)) (d.obj m2 v2);have e4 := e_al (((w.alloc (c.obj m1 v1)).alloc (d.obj m2 v2)).alloc (.cells #[tv,sv] 49)) (.cells #[ev] 54);rw [hz3,hz2] at hbm;rw [hz1] at d0 d1 d2 d3 d4;rw [hz2] at b0 b1;have hxw := e1.trans (e2.trans (e3.trans e4));replace c0 := (e2.trans (e3.trans e4)).cell c0;replace c1 := (e2.trans (e3.trans e4)).cell c1;replace c2 := (e2.trans (e3.trans e4)).cell c2;replace c3 := (e2.trans (e3.trans e4)).cell c3;replace c4 := (e2.trans (e3.trans e4)).cell c4;replace d0 := (e3.trans e4).cell d0;replace d1 := (e3.trans e4).cell d1;replace d2 := (e3.trans e4).cell d2;replace d3 := (e3.trans e4).cell d3;replace d4 := (e3.trans e4).cell d4;replace b0 := e4.cell b0;replace b1 := e4.cell b1;obtain ⟨B,hB⟩ : ∃ B,w.heap.size = B := ⟨_,rfl⟩;rw [hB] at c0 c1 c2 c3 c4 d0 d1 d2 d3 d4 b0 b1 hbm;have HST := hid_ (start_any _ c d m1 m2 v1 v2 (hc.ex hxw) (hd.ex hxw) tl sl tv sv (ht.ex hxw) (hs.ex hxw));obtain ⟨ta,tc,rfl,-,t2,-⟩ := ht.open;obtain ⟨sa,sc,rfl,-,s2,-⟩ := hs.open;obtain ⟨x1,y1,rfl,-,z1,-⟩ := hc.g.open;obtain ⟨x2,y2,rfl,-,z2,-⟩ := hd.g.open;obtain ⟨x3,y3,rfl,-,z3,-⟩ := hc.m.open;obtain ⟨x4,y4,rfl,-,z4,-⟩ := hd.m.open;unfold maxLen at t2 s2 z1 z2 z3 z4;have HX := hid_ hxw;have HC := hid_ hc;have HD := hid_ hd;have HT := hid_ ht;have HS := hid_ hs;have HR := hid_ hr;have HBM := hid_ hbm;obtain ⟨ra,rc,rfl,hrc,-,-⟩ := rsl_open hr;unfold maxLen at hrc;have HWB := hid_ hB;clear hc hd ht hs hr e1 e2 e3 e4 hz1 hz2 hz3 hxw hbm;unfold CdV.arg at HST ⊢;go_enter Tryz.func34,Tryz.ntmps34
 unfold CdV.obj at c0 c1 c2 c3 c4 d0 d1 d2 d3 d4 b0 b1 HX HBM HST;go_upto_region 1 with fail
 try simp only [hB]
 clear hB;generalize (((w.alloc (.cells #[.int .i64 c.p,.int .i64 c.m,.slice x3 c.ml.length y3,.int .i64 c.n,.slice x1 c.rows.length y1] 47)).alloc (.cells #[.int .i64 d.p,.int .i64 d.m,.slice x4 d.ml.length y4,.int .i64 d.n,.slice x2 d.rows.length y2] 47)).alloc (.cells #[.slice ta tl.length tc,.slice sa sl.length sc] 49)).alloc (.cells #[.slice ra es.length rc] 54) = w1 at *;have B0 := hid_ b0;have B1 := hid_ b1;go_wp2_with fail
 refine HST.out.mono ?_;rintro e w3 ⟨ho,hx3⟩;have HX3 := hid_ hx3;obtain ⟨e1,e2,ho1,ho2,ho⟩ := ho;have HO1 := hid_ ho1;have HO2 := hid_ ho2;clear c0 c1 c2 c3 c4 d0 d1 d2 d3 d4 hx3 ho1 ho2 HST b0 b1;obtain ⟨E,hE⟩ : ∃ E,stE e1 e2 (samF c.p c.m c.ml d.p d.m d.ml) c.n d.n tl sl (c.p.toNat ^ c.m.toNat) = E := ⟨_,rfl⟩;rw [hE] at ho;have HE := hid_ hE;rcases ho with ⟨h0,ptr,rfl⟩ | ⟨h0,w2,A,b,x0,pn,mn,nn,hp,hm,hnn,rfl,hx2,hg,hx01,hx02,hA,hx23,hpr,h11,hf11⟩
 ·have hb0 : (E != 0) = true := by simpa using h0
  have H0 := hid_ h0;clear h0 hE;go_wp2_with fail
  go_ret;refine ⟨⟨e1,e2,HO1.out,HO2.out,?_⟩,(HX.out.trans HX3.out).alloc _⟩;rw [HE.out];unfold ckE;rw [if_pos H0.out];rfl
 ·subst h0;obtain ⟨k1,k2,k3,k4,k5,k6,k7,k8,k9⟩ := stE_ok hE;subst k1;have ho2 := HO2.out rfl;subst k2;obtain ⟨kl1,kr1⟩ := codO_rows HO1.out;obtain ⟨kl2,kr2⟩ := codO_rows ho2;obtain ⟨-,kn1,kn2⟩ := codO_fld HO1.out;obtain ⟨SB,hSB⟩ : ∃ B,w3.heap.size = B := ⟨_,rfl⟩;have hxw2 := HX.out.trans hx2;have b0 := HX3.out.cell B0.out;have b1 := HX3.out.cell B1.out;have r0 := HX3.out.cell HBM.out;have HK := hid_ (show c.n = d.n ∧ tl.length = sl.length ∧ (tl.length : Int) ≤ c.n ∧ rngB tl c.n = true from ⟨k4,k5,k6,k7⟩);have HPM := hid_ (show c.p = pn ∧ c.m = mn ∧ c.n = nn from ⟨hp,hm,hnn⟩);clear HBM hp hm hnn k3 k4 k5 k6 k7 k8 k9 hE;go_upto_region 7 with fail
  have f1 := e_al w3 (.cells #[.pointer (some ⟨A,0,none⟩)] 96);have f2 := e_al (w3.alloc (.cells #[.pointer (some ⟨A,0,none⟩)] 96)) (.cells #[.int .i64 0] 3);have f3 := e_al ((w3.alloc (.cells #[.pointer (some ⟨A,0,none⟩)] 96)).alloc (.cells #[.int .i64 0] 3)) (.cells #[folV (SB + 1) (B + 1 + 1 + 1) SB (SB + 1 + 1)] 105);have sb0 : (w3.alloc (.cells #[.pointer (some ⟨A,0,none⟩)] 96)).cell? ⟨SB,0,none⟩ = some (.pointer (some ⟨A,0,none⟩)) := alloc1_cell _ _ _ hSB;have hs4 : (w3.alloc (.cells #[.pointer (some ⟨A,0,none⟩)] 96)).heap.size = SB + 1 := by simp [hSB]
  have ab0 : ((w3.alloc (.cells #[.pointer (some ⟨A,0,none⟩)] 96)).alloc (.cells #[.int .i64 0] 3)).cell? ⟨SB + 1,0,none⟩ = some (.int .i64 0) := alloc1_cell _ _ _ hs4;have af0 : ((w3.alloc (.cells #[.pointer (some ⟨A,0,none⟩)] 96)).alloc (.cells #[.int .i64 0] 3)).frozen? ⟨SB + 1,0,none⟩ = false := alloc1_frz _ _ _ hs4;have hs5 : ((w3.alloc (.cells #[.pointer (some ⟨A,0,none⟩)] 96)).alloc (.cells #[.int .i64 0] 3)).heap.size = SB + 1 + 1 := by simp [hSB]
  have fb0 : (((w3.alloc (.cells #[.pointer (some ⟨A,0,none⟩)] 96)).alloc (.cells #[.int .i64 0] 3)).alloc (.cells #[folV (SB + 1) (B + 1 + 1 + 1) SB (SB + 1 + 1)] 105)).cell? ⟨SB + 1 + 1,0,none⟩ = some (folV (SB + 1) (B + 1 + 1 + 1) SB (SB + 1 + 1)) := alloc1_cell _ _ _ hs5;have hxS := hx23.trans f1;have HENV := hid_ (show CkE pn mn c.ml c.rows d.rows nn A b x0 (B + 1 + 1 + 1) SB (.slice x1 c.rows.length y1) (.slice x2 d.rows.length y2) (.slice ra es.length rc) es (w3.alloc (.cells #[.pointer (some ⟨A,0,none⟩)] 96)) from
   { pr := hpr.ex f1,gf := hg.ex hxS,m1 := (HC.out.g.ex hxw2).ex hxS,m2 := (HD.out.g.ex hxw2).ex hxS,x1 := hx01,x2 := hx02,n64 := by have := HPM.out.2.2;omega,r1 := fun r hr => by have := kr1 r hr;have := HPM.out.2.2;omega,r2 := fun r hr => by have := kr2 r hr;have := HPM.out.2.2;have := HK.out.1;omega,k1 := kl1,k2 := kl2,rb := f1.cell r0,sb := sb0,rs := (HR.out.ex hxw2).ex hxS })
  have HCS := hid_ (show CSt (w3.alloc (.cells #[.pointer (some ⟨A,0,none⟩)] 96)) (SB + 1) (SB + 1 + 1) (folV (SB + 1) (B + 1 + 1 + 1) SB (SB + 1 + 1)) es.length 0 (((w3.alloc (.cells #[.pointer (some ⟨A,0,none⟩)] 96)).alloc (.cells #[.int .i64 0] 3)).alloc (.cells #[folV (SB + 1) (B + 1 + 1 + 1) SB (SB + 1 + 1)] 105)) from
   { ex := f2.trans f3,c := f3.cell ab0,f := f3.frz ab0 af0,fb := fb0,ne := by omega,lb := by rw [hs4];omega,le := Nat.zero_le _ })
  have HP := hid_ (fun (v : Value) (l : List Int) (h : ISl w v l) => show PrS (DM1 (SB + 1)) (((w3.alloc (.cells #[.pointer (some ⟨A,0,none⟩)] 96)).alloc (.cells #[.int .i64 0] 3)).alloc (.cells #[folV (SB + 1) (B + 1 + 1 + 1) SB (SB + 1 + 1)] 105)) v l from by
   refine ⟨h.ex (((hxw2.trans hx23).trans f1).trans (f2.trans f3)),fun hl X hX hd => ?_⟩;have h2 := h.ex (hxw2.trans hx23);obtain ⟨a,cap,rfl,-,-,h5⟩ := h2.open;obtain ⟨b',o,rfl,h6⟩ := h5 (List.length_pos_iff.2 hl);injection hX with hX;have hX : b' = X := hX;have := World.block_lt_of_cell? _ _ (h6 0 _ (get_getD (List.length_pos_iff.2 hl)));have hd : X = SB + 1 := hd;simp only at this;omega)
  have b0 := (f1.trans (f2.trans f3)).cell b0;have b1 := (f1.trans (f2.trans f3)).cell b1;have r0 := (f1.trans (f2.trans f3)).cell r0;have HFO := hid_ (follow_any HENV.out (nn - tl.length) 0 _ tl sl (.slice ta tl.length tc) (.slice sa sl.length sc) (by have := HK.out.2.2.1;have := HPM.out.2.2;omega) HK.out.2.1.symm (by have := HK.out.2.2.2;rw [HPM.out.2.2] at this;exact this) (fun h => absurd rfl h) HCS.out (HP.out _ _ HT.out) (HP.out _ _ HS.out));have hR : flF pn mn c.ml c.rows d.rows nn es (nn - tl.length) 0 tl sl = flS c d es tl sl := by
   unfold flS;rw [HPM.out.1,HPM.out.2.1,HPM.out.2.2];rfl
  rw [hR] at HFO;have fb1 := hid_ fb0;unfold folV at b0 b1 r0 fb0 HFO HCS f3;have HW3 := hid_ (hxw2.trans hxS);have r0w := HENV.out.rb;clear hxS hxw2 hs4 hs5 sb0 ab0 af0 f1 f2 HP hx23 hpr hg hx01 hx02 hA h11 hf11 hx2 kl1 kl2 kr1 kr2 kn1 kn2 hR;generalize ((w3.alloc (.cells #[.pointer (some ⟨A,0,none⟩)] 96)).alloc (.cells #[.int .i64 0] 3)).alloc (.cells #[.func (.func 70) #[] #[.pointer (some ⟨SB + 1,0,none⟩),.pointer (some ⟨B + 1 + 1 + 1,0,none⟩),.pointer (some ⟨SB,0,none⟩),.pointer (some ⟨SB + 1 + 1,0,none⟩)]] 105) = w6 at *;obtain ⟨R,hR⟩ : ∃ R,flS c d es tl sl = R := ⟨_,rfl⟩;rw [hR] at HFO;have HRE := hid_ hR
  try simp only [hSB]
  clear hR;have hle7 : R.1 ≤ es.length ∨ True := Or.inr trivial;clear hle7;go_wp2_with (go_at_call 70;refine HFO.out.mono ?_;rintro e7 w7 ⟨rfl,hs7,-⟩;have HS7 := hid_ hs7;have a7 := hs7.c;have r7 := hs7.ex.cell r0w;have hl7 := hs7.le;clear hs7)
  all_goals
   go_ret;refine ⟨⟨0,0,HO1.out,fun _ => ho2,?_⟩,HW3.out.trans HS7.out.ex⟩;rw [HE.out,HRE.out];unfold ckE
   simp_all
end
section
open Go.RowKit
def disS (l : List Int) (n : Int) : Int := if rngB l n = true then 0 else 6
theorem rngB_of {l : List Int} {n : Int} (h : ∀ j,j < l.length → 0 ≤ l.getD j 0 ∧ l.getD j 0 < n) : rngB l n = true := by
 unfold rngB;refine List.all_eq_true.2 fun x hx => ?_;obtain ⟨j,hj,rfl⟩ := List.getElem_of_mem hx;have := h j hj;rw [List.getD_eq_getElem?_getD,List.getElem?_eq_getElem hj] at this;exact decide_eq_true this
theorem rDist_any (w : World) (l : List Int) (v : Value) (hl : ISl w v l) (n : Int) :
  Calls Tryz.prog 56 #[v,.int .i64 n] w fun r w' => r = .returned (.int .i64 (disS l n)) ∧ w = w' := by
 obtain ⟨a,cap,rfl,s1,s2,s3⟩ := hl.open;unfold maxLen at s2;have S3 := hid_ s3;have HD := hid_ (show (∀ j,j < l.length → 0 ≤ l.getD j 0 ∧ l.getD j 0 < n) → disS l n = 0 from fun h => by unfold disS;rw [if_pos (rngB_of h)]);have HN := hid_ (show ∀ j,j < l.length → ¬ (0 ≤ l.getD j 0 ∧ l.getD j 0 < n) → disS l n = 6 from fun j hj h => by
  unfold disS;rw [if_neg fun hr => h (rngB_at hr hj)])
 clear hl s3;go_enter Tryz.func56,Tryz.ntmps56
 go_wp2_with fail
 go_loop [5] (fun i' => ∃ (i : Nat),i ≤ l.length ∧ i' = .int .i64 i ∧ Hid (∀ j,j < i → 0 ≤ l.getD j 0 ∧ l.getD j 0 < n)) (fun i' => l.length - (intOf i').toNat)
 case atStart => exact ⟨0,by omega,rfl,hid_ (fun j h => by omega)⟩
 case round =>
  obtain ⟨i,hi,rfl,hall⟩ := hrel;by_cases hlt : i < l.length
  ·obtain ⟨bb,o,rfl,hc⟩ := S3.out (by omega);have c1 := hc i _ (get_getD hlt);obtain ⟨x,hx⟩ : ∃ x,l.getD i 0 = x := ⟨_,rfl⟩;rw [hx] at c1;have HX := hid_ hx;have HALL := hid_ (show (0 ≤ x ∧ x < n) → ∀ j,j < i + 1 → 0 ≤ l.getD j 0 ∧ l.getD j 0 < n from fun h j hj => by
    by_cases e : j = i
    ·subst e;rw [hx];exact h
    ·exact hall.out j (by omega))
   have i1 : (0 : Int) ≤ (i : Int) := by omega
   have i2 : (i : Int) < (l.length : Int) := by omega
   clear hc hx;by_cases h0 : x < 0
   ·have HR := hid_ (HN.out i hlt (by rw [HX.out];omega));have k0 : decide (x < 0) = true := by simpa using h0
    go_wp2_with fail
    go_ret;exact ⟨ret_int HR.out.symm,rfl⟩
   ·have k0 : decide (x < 0) = false := by simpa using h0
    by_cases h1 : n ≤ x
    ·have HR := hid_ (HN.out i hlt (by rw [HX.out];omega));have k1 : decide (n ≤ x) = true := by simpa using h1
     go_wp2_with fail
     go_ret;exact ⟨ret_int HR.out.symm,rfl⟩
    ·have HA := hid_ (HALL.out ⟨by omega,by omega⟩);have k1 : decide (n ≤ x) = false := by simpa using h1
     go_wp2_with fail
     go_round
     case rel => exact ⟨i + 1,by omega,by go_num,HA⟩
     case measure => simp [intOf];omega
  ·obtain rfl : i = l.length := by omega
   have HR := hid_ (HD.out hall.out);go_wp2_with fail
   go_ret;exact ⟨ret_int HR.out.symm,rfl⟩
theorem dupB_iff {l : List Int} : dupB l = true ↔ ∃ i j,j < i ∧ i < l.length ∧ l.getD i 0 = l.getD j 0 := by
 unfold dupB dupK;rw [List.any_eq_true];constructor
 ·rintro ⟨i,hi,h⟩;have hi := List.mem_range.1 hi;rw [List.contains_iff_mem] at h;obtain ⟨j,hj,e⟩ := List.getElem_of_mem h;rw [List.length_take] at hj;refine ⟨i,j,by omega,hi,?_⟩;rw [← e,List.getElem_take,List.getD_eq_getElem?_getD,List.getElem?_eq_getElem (show j < l.length by omega)];rfl
 ·rintro ⟨i,j,h1,h2,h3⟩;refine ⟨i,List.mem_range.2 h2,?_⟩;rw [List.contains_iff_mem,h3];have hj : j < (l.take i).length := by rw [List.length_take];omega
  have := List.getElem_mem hj;rw [List.getElem_take] at this;rw [List.getD_eq_getElem?_getD,List.getElem?_eq_getElem (show j < l.length by omega)];exact this
theorem rTwice_any (w : World) (l : List Int) (v : Value) (hl : ISl w v l) :
  Calls Tryz.prog 57 #[v] w fun r w' => r = .returned (.bool (dupB l)) ∧ Ex w w' := by
 obtain ⟨a,cap,rfl,s1,s2,s3⟩ := hl.open;unfold maxLen at s2;have S3 := hid_ s3;have HY := hid_ (show ∀ i j,j < i → i < l.length → l.getD i 0 = l.getD j 0 → dupB l = true from fun i j h1 h2 h3 => dupB_iff.2 ⟨i,j,h1,h2,h3⟩);have HN := hid_ (show (∀ i j,j < i → i < l.length → l.getD i 0 ≠ l.getD j 0) → dupB l = false from fun h => by
  cases hb : dupB l with
  | false => rfl
  | true => obtain ⟨i,j,h1,h2,h3⟩ := dupB_iff.1 hb;exact absurd h3 (h i j h1 h2))
 obtain ⟨D,hD⟩ : ∃ D,dupB l = D := ⟨_,rfl⟩;rw [hD] at HY HN;rw [hD];clear hl s3 hD;go_enter Tryz.func57,Tryz.ntmps57
 go_wp2_with fail
 go_loopw [3,4] (fun i' _ wr => ∃ (i : Nat),i ≤ l.length ∧ i' = .int .i64 i ∧ Hid (∀ k j,j < k → k < i → l.getD k 0 ≠ l.getD j 0) ∧ Hid (Ex w wr)) (fun i' _ _ => l.length - (intOf i').toNat)
 case atStart => exact ⟨0,by omega,rfl,hid_ (fun k j _ h => by omega),hid_ (Ex.refl _)⟩
 case round =>
  obtain ⟨i,hi,rfl,hall,hex⟩ := hrel;by_cases hlt : i < l.length
  ·obtain ⟨bb,o,rfl,hc⟩ := S3.out (by omega);have c1 := hc i _ (get_getD hlt);obtain ⟨x,hx⟩ : ∃ x,l.getD i 0 = x := ⟨_,rfl⟩;rw [hx] at c1;have HX := hid_ hx;have HC := hid_ hc;have C1 := hid_ c1;have i1 : (0 : Int) ≤ (i : Int) := by omega
   have i2 : (i : Int) < (l.length : Int) := by omega
   clear hc hx c1;obtain ⟨w8,h8⟩ : ∃ w8,w8 = wr := ⟨_,rfl⟩;rw [← h8] at hex ⊢;clear h8;go_wp2_with fail
   go_loopw [4] (fun j' wr => ∃ (j : Nat),j ≤ i ∧ j' = .int .i64 j ∧ Hid (∀ k,k < j → x ≠ l.getD k 0) ∧ Hid (Ex w wr)) (fun j' _ => i - (intOf j').toNat)
   case atStart => exact ⟨0,by omega,rfl,hid_ (fun k h => by omega),hex⟩
   case round =>
    obtain ⟨j,hj,rfl,hal2,hex2⟩ := hrel;have c1 := hex2.out.cell C1.out;by_cases hji : j < i
    ·have c2 := hex2.out.cell (HC.out j _ (get_getD (by omega)));obtain ⟨y,hy⟩ : ∃ y,l.getD j 0 = y := ⟨_,rfl⟩;rw [hy] at c2;have HYY := hid_ hy;have j1 : (0 : Int) ≤ (j : Int) := by omega
     have j2 : (j : Int) < (l.length : Int) := by omega
     clear hy;by_cases hxy : x = y
     ·have hr : D = true := HY.out i j hji hlt (by rw [HX.out,HYY.out,hxy]);subst hr;have kb : (x == y) = true := by simpa using hxy
      clear hxy;go_upto_region 7 with fail
      go_quiet (fail)
      go_wp2_with fail
      go_ret;exact ⟨rfl,hex2.out.drewN _⟩
     ·have kb : (x == y) = false := by simpa using hxy
      have HA := hid_ (show ∀ k,k < j + 1 → x ≠ l.getD k 0 from fun k hk => by
       by_cases e : k = j
       ·subst e;rw [HYY.out];exact hxy
       ·exact hal2.out k (by omega))
      clear hxy;go_upto_region 7 with fail
      go_quiet (fail)
      go_wp2_with fail
      go_roundw
      case rel => exact ⟨j + 1,by omega,by go_num,HA,hid_ (hex2.out.drewN _)⟩
      case measure => simp [intOf];omega
    ·obtain rfl : j = i := by omega
     have HA := hid_ (show ∀ k m,m < k → k < j + 1 → l.getD k 0 ≠ l.getD m 0 from fun k m hm hk => by
      by_cases e : k = j
      ·subst e;rw [HX.out];exact hal2.out m hm
      ·exact hall.out k m hm (by omega))
     go_wp2_with fail
     go_roundw
     case rel => first | exact ⟨j + 1,by omega,by go_num,HA,hex2⟩ | ((repeat apply Exists.intro);exact ⟨⟨j + 1,by omega,by go_num,HA,hex2⟩,rfl⟩)
     case measure => simp [intOf];omega
  ·obtain rfl : i = l.length := by omega
   have hr : D = false := HN.out fun k j h1 h2 => hall.out k j h1 h2;subst hr;go_wp2_with fail
   go_ret;exact ⟨rfl,hex.out⟩
section
variable {p m : Nat} {ml : List Int} {mv : Value}
theorem facS_ent {q : Nat} {l : List Int} : facS q l = if entS q l ≠ 0 then entS q l else if l.contains 0 = true then 7 else 0 := by
 unfold facS entS;have e : (l.any fun x => !isB q x) = !(l.all fun x => isB q x) := by rw [List.not_all_eq_any_not]
 rw [e];cases (l.all fun x => isB q x) <;> simp
theorem rFac_any (w : World) (hf : FSh p m ml) (l : List Int) (v : Value) (hl : ISl w v l) :
  Calls Tryz.prog 58 #[.agg #[.int .i64 p,.int .i64 m,mv],v] w fun r w' => r = .returned (.int .i64 (facS (p ^ m) l)) ∧ Ex w w' := by
 obtain ⟨d0,d1,d2,e0,hsz⟩ := box_facts w p m mv;have HE := hid_ (rEntries_any (mv := mv) _ hf l v (hl.ex e0));obtain ⟨a,cap,rfl,s1,s2,s3⟩ := hl.open;unfold maxLen at s2;have S3 := hid_ s3;have HF := hid_ (facS_ent (q := p ^ m) (l := l));have HE0 := hid_ e0;obtain ⟨F,hF⟩ : ∃ F,facS (p ^ m) l = F := ⟨_,rfl⟩;obtain ⟨E,hE⟩ : ∃ E,entS (p ^ m) l = E := ⟨_,rfl⟩;rw [hF,hE] at HF;rw [hE] at HE;rw [hF];clear hl s3 hf hF hE e0 hsz;go_enter Tryz.func58,Tryz.ntmps58
 go_wp2_with fail
 generalize w.alloc (.cells #[.int .i64 p,.int .i64 m,mv] 24) = w1 at *;refine HE.out.mono ?_;rintro e w2 ⟨rfl,hx2⟩;have HX2 := hid_ (HE0.out.trans hx2);clear d0 d1 d2;by_cases he : E = 0
 ·subst he;have HF2 := hid_ (show F = if l.contains 0 = true then 7 else 0 from HF.out);clear hx2;go_wp2_with fail
  go_loop [6] (fun i' => ∃ (i : Nat),i ≤ l.length ∧ i' = .int .i64 i ∧ Hid (∀ j,j < i → l.getD j 0 ≠ 0)) (fun i' => l.length - (intOf i').toNat)
  case atStart => exact ⟨0,by omega,rfl,hid_ (fun j h => by omega)⟩
  case round =>
   obtain ⟨i,hi,rfl,hall⟩ := hrel;by_cases hlt : i < l.length
   ·obtain ⟨bb,o,rfl,hc⟩ := S3.out (by omega);have c1 := HX2.out.cell (hc i _ (get_getD hlt));have i1 : (0 : Int) ≤ (i : Int) := by omega
    have i2 : (i : Int) < (l.length : Int) := by omega
    obtain ⟨x,hx⟩ : ∃ x,l.getD i 0 = x := ⟨_,rfl⟩;rw [hx] at c1;have HX := hid_ hx;clear hc hx;by_cases h0 : x = 0
    ·subst h0;have HR := hid_ (show F = 7 from by
      rw [HF2.out,if_pos];rw [List.contains_iff_mem,← HX.out,List.getD_eq_getElem?_getD,List.getElem?_eq_getElem hlt];exact List.getElem_mem hlt)
     go_wp2_with fail
     go_ret;exact ⟨ret_int HR.out.symm,HX2.out⟩
    ·have kb : (x == 0) = false := by simpa using h0
     have HA := hid_ (show ∀ j,j < i + 1 → l.getD j 0 ≠ 0 from fun j hj => by
      by_cases e : j = i
      ·subst e;rw [HX.out];exact h0
      ·exact hall.out j (by omega))
     clear h0;go_wp2_with fail
     go_round
     case rel => exact ⟨i + 1,by omega,by go_num,HA⟩
     case measure => simp [intOf];omega
   ·obtain rfl : i = l.length := by omega
    have HR := hid_ (show F = 0 from by
     rw [HF2.out,if_neg];intro h;rw [List.contains_iff_mem] at h;obtain ⟨j,hj,e⟩ := List.getElem_of_mem h;exact hall.out j hj (by rw [List.getD_eq_getElem?_getD,List.getElem?_eq_getElem hj];exact e))
    go_wp2_with fail
    go_ret;exact ⟨ret_int HR.out.symm,HX2.out⟩
 ·have HR := hid_ (show F = E from by rw [HF.out,if_pos he]);have kb : (E != 0) = true := by simpa using he
  clear hx2 he;go_wp2_with fail
  go_ret;exact ⟨ret_int HR.out.symm,HX2.out⟩
end
end
end Go.Proofs.YtgdmlmhpineibaaGreat
