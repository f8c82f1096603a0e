/- Walk of equivalence.Apply. -/
import Derived.Deep.CutRange
import Derived.Test.YtgdmlmhpineibaaGreatZe15
import Derived.Test.YtgdmlmhpineibaaGreatZe20
import Derived.Test.YtgdmlmhpineibaaGreatZe24
import Derived.Test.YtgdmlmhpineibaaGreatZe29
import Derived.Test.YtgdmlmhpineibaaGreatZe38
import Derived.Test.YtgdmlmhpineibaaGreatZe39
namespace Go.Proofs.YtgdmlmhpineibaaGreat
set_option linter.unusedVariables false
set_option linter.unusedSimpArgs false
set_option maxRecDepth 100000
set_option maxHeartbeats 8000000
section
open Go.RowKit
structure LSt (w1 wr : World) (E : Nat) (n : Int) (M : List (List Int)) (rv : Value) (vals : List Value) : Prop where
 c0 : wr.cell? ⟨E,0,none⟩ = some (.int .i64 n)
 c1 : wr.cell? ⟨E,1,none⟩ = some rv
 f1 : wr.frozen? ⟨E,1,none⟩ = false
 rows : MRows wr (E + 1) rv M vals
 lb : w1.heap.size ≤ E
 ex : Ex w1 wr
section
variable {w1 wr w' : World} {E : Nat} {n : Int} {M : List (List Int)} {rv v' l : Value} {vals : List Value} {L : List Int}
theorem LSt.later (h : LSt w1 wr E n M rv vals) (hx : Ex wr w') : LSt w1 w' E n M rv vals :=
 ⟨hx.cell h.c0,hx.cell h.c1,hx.frz h.c1 h.f1,h.rows.ex hx,h.lb,h.ex.trans hx⟩
theorem LSt.at1 (h : LSt w1 wr E n M rv vals) (ha : Appd wr w' (E + 1) 22 1 rv v' M.length vals [l]) : w'.cell? ⟨E,1,none⟩ = some rv ∧ w'.frozen? ⟨E,1,none⟩ = false :=
 ⟨ha.cell h.c1 (fun e => est_ne h.rows.cvo e.symm),ha.frz h.c1 h.f1 (fun e => est_ne h.rows.cvo e.symm)⟩
theorem LSt.app1 (h : LSt w1 wr E n M rv vals) (hl : wr.ownsRow (E + 1) 3 1 l L.length (ints L)) (h1 : Aprt l rv) (ha : Appd wr w' (E + 1) 22 1 rv v' M.length vals [l]) :
  LSt w1 (w'.setCell ⟨E,1,none⟩ v') E n (M ++ [L]) v' (vals ++ [l]) := by
 have hne : some E ≠ rv.ownBlock := fun e => est_ne h.rows.cvo e.symm;have hm := h.rows.app hl h1 ha;refine ⟨?_,World.cell?_setCell_same _ _ _ (ha.cell h.c1 hne),?_,hm.setNe (a := ⟨E,1,none⟩) (by show E < E + 1;omega) v',h.lb,(ha.ex h.ex (by have := h.lb;omega)).setCell (p := ⟨E,1,none⟩) h.lb _⟩
 ·rw [cell_set_off (by decide)];exact ha.cell h.c0 hne
 ·rw [efrz_set];exact ha.frz h.c1 h.f1 hne
end
theorem LSt.new (w1 : World) (n : Int) : LSt w1 (w1.alloc (.cells #[.int .i64 n,.slice none 0 0] 113)) w1.heap.size n [] (.slice none 0 0) [] where
 c0 := by simp
 c1 := by simp
 f1 := by simp
 rows := MRows.nil _ _
 lb := Nat.le_refl _
 ex := (Ex.refl _).alloc _
def imL (p m : Nat) (ml pl sl : List Int) (fr N : Nat) (rows : List (List Int)) (k : Nat) : List (List Int) := (rows.take k).map fun x => il N (imgF p m ml pl sl fr x N)
theorem imL_len {p m : Nat} {ml pl sl : List Int} {fr N : Nat} {rows : List (List Int)} {k : Nat} (h : k ≤ rows.length) : (imL p m ml pl sl fr N rows k).length = k := by
 unfold imL;simp;omega
theorem imL_succ {p m : Nat} {ml pl sl : List Int} {fr N : Nat} {rows : List (List Int)} {k : Nat} (h : k < rows.length) : imL p m ml pl sl fr N rows (k + 1) = imL p m ml pl sl fr N rows k ++ [il N (imgF p m ml pl sl fr (rows[k]'h) N)] := by
 unfold imL;rw [List.take_add_one,List.getElem?_eq_getElem h,List.map_append];rfl
def imA (p m : Int) (ml pl sl : List Int) (fr n : Int) (rows : List (List Int)) : List (List Int) := imL p.toNat m.toNat ml pl sl fr.toNat n.toNat rows rows.length
def AppR (p m : Int) (ml : List Int) (n : Int) (rows : List (List Int)) (pl sl : List Int) (fr : Int) (b0 : Nat) (r : Ending) (w' : World) : Prop :=
 ∃ e1 : Int,CodO p m ml n rows e1 ∧
  ((e1 ≠ 0 ∧ r = .returned (.tuple #[.agg #[.int .i64 0,.int .i64 0,.slice none 0 0,.int .i64 0,.slice none 0 0],.int .i64 e1])) ∨
  (e1 = 0 ∧ monS p m ml n pl sl fr ≠ 0 ∧ r = .returned (.tuple #[.agg #[.int .i64 0,.int .i64 0,.slice none 0 0,.int .i64 0,.slice none 0 0],.int .i64 (monS p m ml n pl sl fr)])) ∨
  (e1 = 0 ∧ monS p m ml n pl sl fr = 0 ∧ CNewR p m ml n (imA p m ml pl sl fr n rows) b0 r w'))
theorem Apply_any (w : World) (p m : Int) (ml : List Int) (mv : Value) (hmv : ISl w mv ml) (n : Int) (rows : List (List Int)) (v : Value) (hv : MSl w v rows) (pl sl : List Int) (pv sv : Value) (hp : ISl w pv pl) (hs : ISl w sv sl) (fr : Int) :
  Calls Tryz.prog 38 #[.agg #[.int .i64 p,.int .i64 m,mv,.int .i64 n,v],.agg #[pv,sv,.int .i64 fr]] w fun r w' => AppR p m ml n rows pl sl fr w.heap.size r w' ∧ Ex w w' := by
 obtain ⟨c0,c1,c2,c3,c4,ea⟩ := boxC_facts w p m mv n v;obtain ⟨b0,b1,b2,eb⟩ := boxMo_facts (w.alloc (.cells #[.int .i64 p,.int .i64 m,mv,.int .i64 n,v] 47)) pv sv fr;have asz : (w.alloc (.cells #[.int .i64 p,.int .i64 m,mv,.int .i64 n,v] 47)).heap.size = w.heap.size + 1 := by simp
 have bsz : ((w.alloc (.cells #[.int .i64 p,.int .i64 m,mv,.int .i64 n,v] 47)).alloc (.cells #[pv,sv,.int .i64 fr] 26)).heap.size = w.heap.size + 1 + 1 := by simp
 rw [asz] at b0 b1 b2;replace c0 := eb.cell c0;replace c1 := eb.cell c1;replace c2 := eb.cell c2;replace c3 := eb.cell c3;replace c4 := eb.cell c4;have HX := hid_ (ea.trans eb);have HM := hid_ hmv;have HV := hid_ hv;have HP := hid_ hp;have HS := hid_ hs;obtain ⟨va,vc,rfl,-,q1,v3⟩ := hv.open;obtain ⟨ma,mc,rfl,-,q2,-⟩ := hmv.open;obtain ⟨pa,pc,rfl,-,q3,-⟩ := hp.open;obtain ⟨sa,sc,rfl,-,q4,-⟩ := hs.open;unfold maxLen at q1 q2 q3 q4;have V3 := hid_ v3;obtain ⟨B,hB⟩ : ∃ B,w.heap.size = B := ⟨_,rfl⟩;rw [hB] at c0 c1 c2 c3 c4 b0 b1 b2 bsz;clear hmv hv hp hs ea eb asz v3;go_enter Tryz.func38,Tryz.ntmps38
 go_upto_region 1 with fail
 try simp only [hB]
 have HB := hid_ hB;clear hB;generalize (w.alloc (.cells #[.int .i64 p,.int .i64 m,.slice ma ml.length mc,.int .i64 n,.slice va rows.length vc] 47)).alloc (.cells #[.slice pa pl.length pc,.slice sa sl.length sc,.int .i64 fr] 26) = wB at *;have bq := BxC.new wB;rw [bsz] at bq;have ec : Ex wB _ := e_al wB (.cells #[.int .i64 0,.int .i64 0,.slice none 0 0,.int .i64 0,.slice none 0 0] 47);have csz : (wB.alloc (.cells #[.int .i64 0,.int .i64 0,.slice none 0 0,.int .i64 0,.slice none 0 0] 47)).heap.size = B + 1 + 1 + 1 := by simp [bsz]
 try simp only [bsz]
 generalize wB.alloc (.cells #[.int .i64 0,.int .i64 0,.slice none 0 0,.int .i64 0,.slice none 0 0] 47) = wC at *;have HALL := hid_ (fun w' (h : Ex wC w') => (⟨h.cell (ec.cell c0),h.cell (ec.cell c1),h.cell (ec.cell c2),h.cell (ec.cell c3),h.cell (ec.cell c4),h.cell (ec.cell b0),h.cell (ec.cell b1),h.cell (ec.cell b2)⟩ : _ ∧ _ ∧ _ ∧ _ ∧ _ ∧ _ ∧ _ ∧ _));have BQ := hid_ bq;have HXC := hid_ (HX.out.trans ec);have CSZ := hid_ csz;have HCK := hid_ (codeCheck_any wC p m ml _ (HM.out.ex HXC.out) n rows _ (HV.out.ex HXC.out));clear c0 c1 c2 c3 c4 b0 b1 b2 bq ec csz bsz HX;obtain ⟨c0,c1,c2,c3,c4,b0,b1,b2⟩ := HALL.out wC (Ex.refl _);go_wp2_with fail
 refine HCK.out.mono ?_;rintro e w2 ⟨⟨e1,rfl,ho1⟩,hx2⟩;clear c0 c1 c2 c3 c4 b0 b1 b2 HCK;obtain ⟨c0,c1,c2,c3,c4,b0,b1,b2⟩ := HALL.out w2 hx2;have HX2 := hid_ hx2;have HO1 := hid_ ho1;clear hx2 ho1;by_cases h1 : e1 = 0
 ·subst h1;have HF := hid_ (codO_fld HO1.out);have HR := hid_ (codO_rows HO1.out);have HOP := hid_ (eOpen_any w2 p m ml _ (HM.out.ex (HXC.out.trans HX2.out)) n pl sl _ _ (HP.out.ex (HXC.out.trans HX2.out)) (HS.out.ex (HXC.out.trans HX2.out)) fr);obtain ⟨E,hE⟩ : ∃ E,monS p m ml n pl sl fr = E := ⟨_,rfl⟩;rw [hE] at HOP;have HE := hid_ hE;clear hE;go_wp2_with fail
  refine HOP.out.mono ?_;rintro e w3 ⟨ho,hx3⟩;clear c0 c1 c2 c3 c4 b0 b1 b2 HOP;obtain ⟨c0,c1,c2,c3,c4,b0,b1,b2⟩ := HALL.out w3 (HX2.out.trans hx3);have HX3 := hid_ (HX2.out.trans hx3);clear hx3 HX2;rcases ho with ⟨rfl,b,pn,mn,x0,rfl,rfl,rfl,hg,x1,x2'⟩ | ⟨h0,ptr,rfl⟩
  ·obtain ⟨_,n1,n2,n3,n4,n5,n6,n7,_,_⟩ := mon_ok HE.out;obtain ⟨fn,rfl⟩ : ∃ fn : Nat,fr = fn := ⟨fr.toNat,by omega⟩;obtain ⟨N,rfl⟩ : ∃ N : Nat,n = N := ⟨n.toNat,by omega⟩;have HR2 := HR.out.1;have hrl : ∀ r ∈ rows,r.length = N := fun r hr => by have := HR.out.2 r hr;omega
   have HRL := hid_ hrl;have HNN := hid_ (show 1 ≤ N ∧ N ≤ 64 ∧ ml.length ≤ 1000 from ⟨by omega,by omega,by have h := hg.sh.len;have h8 := hg.sh.m8;rw [h];split <;> omega⟩);have HIM := hid_ (fun (w1 : World) (h1 : Ex w3 w1) (x : List Int) (xv : Value) (hx : ISl w1 xv x) (hxl : x.length = N) => image_any w1 (hg.ex h1) N (by omega) pl sl x _ _ xv (HP.out.ex ((HXC.out.trans HX3.out).trans h1)) (HS.out.ex ((HXC.out.trans HX3.out).trans h1)) hx fn (by omega) (by omega) (by omega) hxl n5);have HF1 := hid_ (show imA pn mn ml pl sl fn N rows = imL pn mn ml pl sl fn N rows rows.length from by unfold imA;simp only [Int.toNat_natCast]);clear n1 n2 n3 n4 n5 n6 n7 hrl x1 x2' hg HR;go_upto_region 8 with fail
   obtain ⟨F,hF⟩ : ∃ F,w3.heap.size = F := ⟨_,rfl⟩;have hs0 := LSt.new w3 (N : Int)
   try simp only [hF]
   rw [hF] at hs0;have HS0 := hid_ hs0;have HFW := hid_ hF;have ec := e_al w3 (.cells #[.int .i64 N,.slice none 0 0] 113);generalize w3.alloc (.cells #[.int .i64 N,.slice none 0 0] 113) = w4 at *;clear c0 c1 c2 c3 c4 b0 b1 b2 hF hs0;obtain ⟨c0,c1,c2,c3,c4,b0,b1,b2⟩ := HALL.out w4 (HX3.out.trans ec);have EC := hid_ ec;clear ec;go_wp2_with fail
   go_loopw [37] (fun i' wr => ∃ (k : Nat) (rv : Value) (vals : List Value),k ≤ rows.length ∧ i' = .int .i64 k ∧ Hid (LSt w3 wr F N (imL pn mn ml pl sl fn N rows k) rv vals)) (fun i' _ => rows.length - (intOf i').toNat)
   case atStart => exact ⟨0,_,_,by omega,rfl,HS0⟩
   case round =>
    clear HS0 c0 c1 c2 c3 c4 b0 b1 b2;obtain ⟨k,rv,vals,hk,rfl,hst⟩ := hrel;by_cases hkR : k < rows.length
    ·obtain ⟨rb,ro,rfl,hrc⟩ := V3.out (by omega);obtain ⟨uv,huc,hui⟩ := hrc k _ (List.getElem?_eq_getElem hkR);have HW4 := hid_ hst.out.ex;have cu := ((HXC.out.trans HX3.out).trans HW4.out).cell huc;have i1 : (0 : Int) ≤ (k : Int) := by omega
     have i2 : (k : Int) < (rows.length : Int) := by omega
     obtain ⟨x,hx⟩ : ∃ x,rows[k] = x := ⟨_,rfl⟩;have HXS := hid_ (imL_succ (p := pn) (m := mn) (ml := ml) (pl := pl) (sl := sl) (fr := fn) (N := N) hkR);have HXL := hid_ (show x.length = N from hx ▸ HRL.out _ (List.getElem_mem hkR));rw [hx] at HXS hui;have HUI := hid_ (hui.ex ((HXC.out.trans HX3.out).trans HW4.out));have HLN := hid_ (imL_len (p := pn) (m := mn) (ml := ml) (pl := pl) (sl := sl) (fr := fn) (N := N) hk);have HST := hid_ hst.out;obtain ⟨b0,b1,b2⟩ := (HALL.out wr (HX3.out.trans HW4.out)).2.2.2.2.2;have t1 := hst.out.c1;have T1F := hid_ hst.out.f1;obtain ⟨qa,qc,hqv⟩ := own_shape hst.out.rows.cvo;subst hqv;rw [imL_len (by omega)] at t1;have HTT := hid_ t1;obtain ⟨ua,uc,rfl,-,u2,-⟩ := hui.open;unfold maxLen at u2;have HSX := hid_ (fun (w1 : World) (h1 : Ex wr w1) => HIM.out w1 (HW4.out.trans h1) x _ (HUI.out.ex h1) HXL.out);clear hrc huc hui hx hst;go_upto_region 11 with fail
     have HXG := hid_ (show Ex wr wr.drew from (Ex.refl wr).drew)
     go_region_law
      ((first
              | (refine step_append_sl (by rfl) _ _ _ (by rfl) (F + 1) 22 (.slice none 0 0) 1 24 Tryz.underlying45 infoIntsL rfl (by decide) (.slice qa k qc) k vals (by rfl) (by have h := ownsRow_ex HST.out.rows.cvo ((HXG.out.trans hx5).trans (e_al w5 (.cells #[.slice (some ⟨g5,0,none⟩) N N] 22)));rw [HLN.out] at h;exact h) _ 1 [.slice (some ⟨g5,0,none⟩) N N] (by rfl) (Sl.own (own_lit1 w5 (.slice (some ⟨g5,0,none⟩) N N) 22)) (by simp [Value.oneCell']) (by unfold maxLen;omega) (by omega) (by have := HS5.out;simp;omega) ?_;intro v8 w8 hown8 hg8 ha8;have HAP := hid_ (e_appd (by have h := ownsRow_ex HST.out.rows.cvo (HXG.out.trans hx5);rw [HLN.out] at h;exact h) hown8 hg8 ha8);obtain ⟨t1y,t2y⟩ := (HST.out.later (HXG.out.trans hx5)).at1 (by rw [HLN.out];exact HAP.out);rw [HLN.out] at t1y;obtain ⟨va8,vc8,hv8⟩ := own_shape hown8;subst hv8)
              | (go_simp;refine (HSX.out _ HXG.out).mono ?_;rintro e w5 ⟨g5,rfl,ho5,hx5⟩;have t1 := hx5.cell (show wr.drew.cell? ⟨F,1,none⟩ = some (.slice qa k qc) from HTT.out);have t1x := (e_al w5 (.cells #[.slice (some ⟨g5,0,none⟩) N N] 22)).cell t1;have HS5 := hid_ (show F + 1 ≤ w5.heap.size from by have h1 := ho5.lt;have h2 := World.block_lt_of_cell? _ _ t1;exact h2);go_simp)))
     all_goals
      have hx5' := HXG.out.trans hx5;have HS5' := HST.out.later hx5';have hl5 : w5.ownsRow (F + 1) 3 1 (.slice (some ⟨g5,0,none⟩) N N) (il N (imgF pn mn ml pl sl fn x N)).length (ints (il N (imgF pn mn ml pl sl fn x N))) := by
       rw [il_len,ints_il];exact ownsRow_mono ho5 (World.block_lt_of_cell? _ _ (HXG.out.cell HTT.out))
      have ha1 : ∀ v2 (e2 : TypeId) (n2 : Nat) xs2,wr.ownsRow (F + 1) e2 1 v2 n2 xs2 → Aprt (.slice (some ⟨g5,0,none⟩) N N) v2 := fun v2 e2 n2 xs2 h => by
       right;show some g5 ≠ _
       intro e;have h1 := (h.lt g5 e.symm).2;have h2 := ho5.lt.1;have h3 := HXG.out.size;omega
      have HS8 := hid_ (HS5'.app1 hl5 (ha1 _ _ _ _ HST.out.rows.cvo) (by rw [HLN.out];exact HAP.out));rw [← HXS.out] at HS8;clear HS5' hl5 ha1 hx5' t1y t2y t1 t1x HAP hown8 hg8 ha8 ho5 hx5 HSX;go_wp2_with fail
      go_roundw
      case rel => first | exact ⟨k + 1,_,_,by omega,by go_num,HS8⟩ | ((repeat apply Exists.intro);exact ⟨⟨k + 1,_,_,by omega,by go_num,HS8⟩,rfl⟩)
      case measure => simp [intOf];omega
    ·obtain rfl : k = rows.length := by omega
     have HST := hid_ hst.out;obtain ⟨c0,c1,c2,c3,c4,-,-,-⟩ := HALL.out wr (HX3.out.trans hst.out.ex);have t0 := hst.out.c0;have t1 := hst.out.c1;have HXW := hid_ ((HXC.out.trans HX3.out).trans hst.out.ex);have HXD := hid_ (HX3.out.trans hst.out.ex);obtain ⟨qa,qc,hqv⟩ := own_shape hst.out.rows.cvo;subst hqv;have HLN := hid_ (imL_len (p := pn) (m := mn) (ml := ml) (pl := pl) (sl := sl) (fr := fn) (N := N) (Nat.le_refl rows.length));have HNW := hid_ (codeNew_any wr pn mn ml _ (HM.out.ex HXW.out) HNN.out.2.2 N _ _ HST.out.rows.msl (fun _ => by have := HNN.out.1;omega));rw [HLN.out] at t1 HNW;clear hst;go_wp2_with fail
     refine HNW.out.mono ?_;rintro e w7 ⟨hc,hx7⟩;obtain ⟨q0,q1,q2,q3,q4,qf0,qf1,qf2,qf3,qf4⟩ := BQ.out.ex (HXD.out.trans hx7);have X7 := hid_ (HXW.out.trans hx7);have hw := HB.out;have HSW := hid_ (show B + 1 + 1 < wr.heap.size from World.block_lt_of_cell? _ _ (BQ.out.ex HXD.out).c0);clear hx7 HNW;rcases hc with ⟨hne,rfl⟩ | ⟨hne,pn',mn',N',piv,a',rv,v',e1,e2,e3,hfb,hmk,rfl,hel,hv',hrv,hb',g,blk,cap,base,hbase,rfl,hem,hp2,hr2⟩
     ·have HNE := hid_ hne;have HFE := hid_ HF1.out;obtain ⟨Z,hZ⟩ : ∃ Z,newE pn mn ml N (imL pn mn ml pl sl fn N rows rows.length) = Z := ⟨_,rfl⟩;rw [hZ] at HNE
      try rw [hZ]
      have HZ := hid_ hZ;clear hne hZ;go_wp2_with fail
      exact bodyPost_ret (v := .tuple #[.agg #[.int .i64 0,.int .i64 0,.slice none 0 0,.int .i64 0,.slice none 0 0],.int .i64 Z]) (by simp [results,Tryz.results38,go_sem,q0,q1,q2,q3,q4]) rfl ⟨⟨0,HO1.out,.inr (.inr ⟨rfl,HE.out,.inl ⟨by rw [HF1.out,HZ.out];exact HNE.out,by rw [HF1.out,HZ.out]⟩⟩)⟩,set5_ex X7.out (by omega) _ _ _ _ _⟩
     ·have hw7 := HSW.out;have hww := HXW.out.size;have HEL := hid_ (((((hem.low (A := ⟨B + 1 + 1,0,none⟩) (by show B + 1 + 1 < base;omega) (.int .i64 pn)).low (A := ⟨B + 1 + 1,1,none⟩) (by show B + 1 + 1 < base;omega) (.int .i64 mn)).low (A := ⟨B + 1 + 1,2,none⟩) (by show B + 1 + 1 < base;omega) v').low (A := ⟨B + 1 + 1,3,none⟩) (by show B + 1 + 1 < base;omega) (.int .i64 N)).low (A := ⟨B + 1 + 1,4,none⟩) (by show B + 1 + 1 < base;omega) (.slice (some ⟨g,0,none⟩) piv.length piv.length));have HB1 := hid_ (show ∀ B',v'.ownBlock = some B' → B' ≠ B + 1 + 1 from fun B' h => by have := hb' B' h;omega);have HB2 := hid_ (show ∀ B',v'.ownBlock = some B' → w.heap.size ≤ B' from fun B' h => by have := hb' B' h;omega);have HLO := hid_ (show w.heap.size ≤ base from by omega);have HOK := hid_ (show newE pn mn ml N (imL pn mn ml pl sl fn N rows rows.length) = 0 ∧ FldB pn mn ml ∧ mchkS (pn ^ mn) N (imL pn mn ml pl sl fn N rows rows.length) = 0 ∧ ElO pn mn ml N (imL pn mn ml pl sl fn N rows rows.length).length (rowsF (imL pn mn ml pl sl fn N rows rows.length)) a' piv from by
       obtain rfl : pn = pn' := by omega
       obtain rfl : mn = mn' := by omega
       obtain rfl : N = N' := by omega
       exact ⟨hne,hfb,hmk,hel⟩)
      obtain rfl : N = N' := by omega
      have HPV := hid_ hp2;have HPR := hid_ hr2;have HMS := hid_ (HEL.out.msl hp2 hr2);have HVV := hid_ hv';have HEQ := hid_ (show pn = pn' ∧ mn = mn' from ⟨by omega,by omega⟩);obtain ⟨xa,xc,rfl,-,-,-⟩ := hv'.open;clear hne hfb hmk hel hv' hrv hb' hbase hem hp2 hr2 hw7 hww e1 e2 e3;go_wp2_with fail
      exact bodyPost_ret (v := .tuple #[.agg #[.int .i64 pn,.int .i64 mn,.slice xa ml.length xc,.int .i64 N,.slice (some ⟨g,0,none⟩) piv.length piv.length],.int .i64 0]) (by simp [results,Tryz.results38,go_sem,q0,q1,q2,q3,q4]) rfl ⟨⟨0,HO1.out,.inr (.inr ⟨rfl,HE.out,by rw [HF1.out];exact .inr ⟨HOK.out.1,pn,mn,N,piv,a',_,_,rfl,rfl,rfl,HOK.out.2.1,HOK.out.2.2.1,rfl,HOK.out.2.2.2,set5_isl HVV.out HB1.out _ _ _ _ _,HMS.out,HB2.out,g,blk,cap,base,HLO.out,rfl,HEL.out,HPV.out,HPR.out⟩⟩)⟩,set5_ex X7.out (by omega) _ _ _ _ _⟩
  ·have k1 : (E == 0) = false := by simpa using h0
   obtain ⟨q0,q1,q2,q3,q4,qf0,qf1,qf2,qf3,qf4⟩ := BQ.out.ex HX3.out;have H0 := hid_ h0;have hw := HB.out;clear h0;go_wp2_with fail
   exact bodyPost_ret (v := .tuple #[.agg #[.int .i64 0,.int .i64 0,.slice none 0 0,.int .i64 0,.slice none 0 0],.int .i64 E]) (by simp [results,Tryz.results38,go_sem,q0,q1,q2,q3,q4]) rfl ⟨⟨0,HO1.out,.inr (.inl ⟨rfl,by rw [HE.out];exact H0.out,by rw [HE.out]⟩)⟩,set5_ex (HXC.out.trans HX3.out) (by omega) _ _ _ _ _⟩
 ·have k1 : (e1 == 0) = false := by simpa using h1
  obtain ⟨q0,q1,q2,q3,q4,qf0,qf1,qf2,qf3,qf4⟩ := BQ.out.ex HX2.out;have H1 := hid_ h1;have hw := HB.out;clear h1;go_wp2_with fail
  exact bodyPost_ret (v := .tuple #[.agg #[.int .i64 0,.int .i64 0,.slice none 0 0,.int .i64 0,.slice none 0 0],.int .i64 e1]) (by simp [results,Tryz.results38,go_sem,q0,q1,q2,q3,q4]) rfl ⟨⟨e1,HO1.out,.inl ⟨H1.out,rfl⟩⟩,set5_ex (HXC.out.trans HX2.out) (by omega) _ _ _ _ _⟩
end
section
open Go.RowKit
def EntR (p m N : Nat) (f : Nat → Int) : Prop := ∀ j,j < N → 0 ≤ f j ∧ f j < ((p ^ m : Nat) : Int)
section
variable {p m : Nat} {ml : List Int} {N : Nat}
theorem redJ_addF (hp : 1 ≤ p) (x : Int) (u r : Nat → Int) : redJ p m ml x u r = addF p m ml u (kneg p m (kin (p ^ m) x)) r := by
 funext j;unfold redJ addF;rw [kneg_mul' hp]
theorem redI_dt (hp : 2 ≤ p) {u r : Nat → Int} {pl : Nat} {x : Nat → Int} (hx : dt p m ml N r x = 0) : dt p m ml N (redI p m ml u pl r) x = dt p m ml N u x := by
 unfold redI;split
 ·rfl
 ·rw [redJ_addF (by omega),dt_add hp,hx,kmul_zero_r (by omega),kadd_zero (by omega) (dt_lt hp _ _)]
theorem redI_rng (hp : 2 ≤ p) {u r : Nat → Int} {pl : Nat} (hu : EntR p m N u) : EntR p m N (redI p m ml u pl r) := by
 unfold redI;split
 ·exact hu
 ·intro j hj;unfold redJ;split
  ·exact hu j hj
  ·have := kadd_lt (m := m) (show 1 ≤ p by omega) (kin (p ^ m) (u j)) (kneg p m (kmul p m (lw ml) (kin (p ^ m) (u pl)) (kin (p ^ m) (r j))));omega
theorem redK_dt (hp : 2 ≤ p) {a : Nat → Nat → Int} {pl : Nat → Nat} {v x : Nat → Int} : ∀ k,Sol p m ml N k a x → dt p m ml N (redK p m ml a pl v k) x = dt p m ml N v x
 | 0,_ => rfl
 | k + 1,h => by
  show dt p m ml N (redI p m ml (redK p m ml a pl v k) (pl k) (a k)) x = _
  rw [redI_dt hp (h k (by omega))];exact redK_dt hp k fun i hi => h i (by omega)
theorem redK_rng (hp : 2 ≤ p) {a : Nat → Nat → Int} {pl : Nat → Nat} {v : Nat → Int} (hv : EntR p m N v) : ∀ k,EntR p m N (redK p m ml a pl v k)
 | 0 => hv
 | k + 1 => redI_rng hp (redK_rng hp hv k)
theorem redK_zer (hp : 2 ≤ p) (hm : 1 ≤ m) {n : Nat} {a : Nat → Nat → Int} {pl : Nat → Nat} {v : Nat → Int} (h : Ech N a pl n) : ∀ k,k ≤ n → ∀ j,j < k → redK p m ml a pl v k (pl j) = 0
 | 0,_,j,hj => by omega
 | k + 1,hk,j,hj => by
  show redI p m ml (redK p m ml a pl v k) (pl k) (a k) (pl j) = 0
  unfold redI;split
  ·rename_i h0;by_cases e : j = k
   ·rw [e];exact h0
   ·exact redK_zer hp hm h k (by omega) j (by omega)
  ·unfold redJ;by_cases e : j = k
   ·rw [e,h.one k (by omega),if_neg (by decide),kin_one hp hm,kmul_one hp hm (kin_lt (Nat.pow_pos (by omega)) _),kadd_kneg (by omega)];rfl
   ·rw [h.zer k j (by omega) (by omega),if_pos rfl];exact redK_zer hp hm h k (by omega) j (by omega)
theorem fstI_neg {pr : Nat → Bool} {n : Nat} : fstI pr n < 0 ↔ ∀ j,j < n → pr j = false := by
 have h := fstI_any pr n;constructor
 ·intro h0;rw [decide_eq_false (by omega)] at h;intro j hj
  cases e : pr j with
  | false => rfl
  | true =>
   have : (List.range n).any pr = true := List.any_eq_true.2 ⟨j,List.mem_range.2 hj,e⟩;rw [h] at this;cases this
 ·intro ha;rw [fstI_miss ha];decide
theorem fstI_at {pr : Nat → Bool} {n : Nat} (h : 0 ≤ fstI pr n) : (fstI pr n).toNat < n ∧ pr (fstI pr n).toNat = true ∧ ∀ j,j < (fstI pr n).toNat → pr j = false := by
 unfold fstI at h ⊢;split
 ·rename_i i hi;rw [List.find?_range_eq_some] at hi;refine ⟨by have := List.mem_range.1 hi.2.1;simpa using this,by simpa using hi.1,fun j hj => ?_⟩;have := hi.2.2 j (by simpa using hj);simpa using this
 ·rename_i hn;rw [hn] at h;exact absurd h (by decide)
theorem lzI_neg {t : Nat} {v : Nat → Int} : lzI t v < 0 ↔ ∀ j,j < t → v j = 0 := by
 unfold lzI;rw [fstI_neg];exact ⟨fun h j hj => by simpa using h j hj,fun h j hj => by simpa using h j hj⟩
theorem lzI_at {t : Nat} {v : Nat → Int} (h : 0 ≤ lzI t v) : (lzI t v).toNat < t ∧ v (lzI t v).toNat ≠ 0 := by
 obtain ⟨h1,h2,-⟩ := fstI_at h;refine ⟨h1,?_⟩;have h3 : (v (lzI t v).toNat != 0) = true := h2;simpa using h3
structure SpOK (p m : Nat) (ml : List Int) (N k : Nat) (rows : Nat → Nat → Int) (e : EcS) : Prop where
 ech : Ech N e.a e.pl e.n
 sol : ∀ x,Sol p m ml N e.n e.a x ↔ Sol p m ml N k rows x
theorem Sol.succ_iff {k : Nat} {rows : Nat → Nat → Int} {x : Nat → Int} : Sol p m ml N (k + 1) rows x ↔ Sol p m ml N k rows x ∧ dt p m ml N (rows k) x = 0 :=
 ⟨fun h => ⟨fun i hi => h i (by omega),h k (by omega)⟩,fun h i hi => by
  by_cases e : i = k
  ·rw [e];exact h.2
  ·exact h.1 i (by omega)⟩
theorem spnS_ok (hp : 2 ≤ p) (hm : 1 ≤ m) (hF : IsF p m (lw ml)) {k : Nat} {rows : Nat → Nat → Int} {e : EcS} (h : SpOK p m ml N k rows e) (hr : EntR p m N (rows k)) : SpOK p m ml N (k + 1) rows (spnS p m ml N e (rows k)) := by
 have hq0 : 0 < p ^ m := Nat.pow_pos (by omega);have hrng : EntR p m N (e.red p m ml (rows k)) := redK_rng hp hr _;have hdt : ∀ x,Sol p m ml N e.n e.a x → dt p m ml N (e.red p m ml (rows k)) x = dt p m ml N (rows k) x := fun x hx => redK_dt hp _ hx;unfold spnS;split
 ·rename_i hz;obtain ⟨hz1,hz2⟩ := lzI_at hz;generalize hZ : (lzI N (e.red p m ml (rows k))).toNat = z at hz1 hz2;obtain ⟨r1,r2⟩ := hrng z hz1;have hk0 : ((kin (p ^ m) (e.red p m ml (rows k) z) : Nat) : Int) = e.red p m ml (rows k) z := kin_code r1 r2;have hk1 : 1 ≤ kin (p ^ m) (e.red p m ml (rows k) z) := by omega
  have hkl : kin (p ^ m) (e.red p m ml (rows k) z) < p ^ m := kin_lt hq0 _;obtain ⟨c,hc⟩ : ∃ c,ivz p m ml (kin (p ^ m) (e.red p m ml (rows k) z)) = c := ⟨_,rfl⟩;have hcm : kmul p m (lw ml) c (kin (p ^ m) (e.red p m ml (rows k) z)) = 1 := by
   rw [← hc];unfold ivz;rw [if_neg (by omega),kmul_comm];exact kinv_mul hp hm hF hk1 hkl
  rw [hc];have hzr : ∀ j,j < e.n → e.red p m ml (rows k) (e.pl j) = 0 := fun j hj => redK_zer hp hm h.ech _ (Nat.le_refl _) j hj;have hpl : ∀ j,j < e.n → upd e.pl e.n z j = e.pl j := fun j hj => upd_ne _ _ (by omega);have hal : ∀ j,j < e.n → upd e.a e.n (sclF p m ml c (e.red p m ml (rows k))) j = e.a j := fun j hj => upd_ne _ _ (by omega);refine ⟨⟨fun i hi => ?_,fun i hi => ?_,fun i j hj hi => ?_⟩,fun x => ?_⟩
  ·simp only at hi ⊢;by_cases ei : i = e.n
   ·rw [ei,upd_same];exact hz1
   ·rw [hpl i (by omega)];exact h.ech.lt i (by omega)
  ·simp only at hi ⊢;by_cases ei : i = e.n
   ·rw [ei,upd_same,upd_same];show ((kmul p m (lw ml) c (kin (p ^ m) (e.red p m ml (rows k) z)) : Nat) : Int) = 1
    rw [hcm];rfl
   ·rw [hpl i (by omega),hal i (by omega)];exact h.ech.one i (by omega)
  ·simp only at hi ⊢;rw [hpl j (by omega)];by_cases ei : i = e.n
   ·rw [ei,upd_same];show ((kmul p m (lw ml) c (kin (p ^ m) (e.red p m ml (rows k) (e.pl j))) : Nat) : Int) = 0
    rw [hzr j (by omega),kin_zero,kmul_zero_r (by omega)];rfl
   ·rw [hal i (by omega)];exact h.ech.zer i j hj (by omega)
  ·simp only;rw [Sol.succ_iff (k := e.n),Sol.succ_iff (k := k),upd_same,dt_scl hp];have e1 : Sol p m ml N e.n (upd e.a e.n (sclF p m ml c (e.red p m ml (rows k)))) x ↔ Sol p m ml N e.n e.a x :=
    ⟨fun h i hi => by rw [← hal i hi];exact h i hi,fun h i hi => by rw [hal i hi];exact h i hi⟩
   rw [e1];constructor
   ·rintro ⟨a1,a2⟩;refine ⟨(h.sol x).1 a1,?_⟩;rw [← hdt x a1];apply Classical.byContradiction;intro hne;have hcl : c ≠ 0 := fun h0 => by
     rw [h0,kmul_zero (by omega)] at hcm;cases hcm
    have hcq : c < p ^ m := by
     apply Classical.byContradiction;intro hge;rw [← hc] at hge;unfold ivz at hge;rw [if_neg (by omega)] at hge;exact hge (kinv_lt (by omega) _)
    have := hF.ne_zero hp hm (a := c) (b := dt p m ml N (e.red p m ml (rows k)) x) (by omega) hcq (by omega) (dt_lt hp _ _);omega
   ·rintro ⟨a1,a2⟩;have a3 := (h.sol x).2 a1;exact ⟨a3,by rw [hdt x a3,a2,kmul_zero_r (by omega)]⟩
 ·rename_i hz;have h0 := lzI_neg.1 (Int.not_le.1 hz);refine ⟨h.ech,fun x => ?_⟩;rw [Sol.succ_iff (k := k),h.sol x];refine ⟨fun a => ⟨a,?_⟩,fun a => a.1⟩;rw [← hdt x ((h.sol x).2 a)];exact dt_zero hp h0
theorem spn_ok (hp : 2 ≤ p) (hm : 1 ≤ m) (hF : IsF p m (lw ml)) {rows : Nat → Nat → Int} {K : Nat} (hr : ∀ i,i < K → EntR p m N (rows i)) : ∀ k,k ≤ K → SpOK p m ml N k rows (spn p m ml N rows k)
 | 0,_ => ⟨⟨fun i hi => absurd hi (Nat.not_lt_zero i),fun i hi => absurd hi (Nat.not_lt_zero i),fun i j _ hi => absurd hi (Nat.not_lt_zero i)⟩,fun x => ⟨fun _ i hi => absurd hi (Nat.not_lt_zero i),fun _ i hi => absurd hi (Nat.not_lt_zero i)⟩⟩
 | k + 1,hk => spnS_ok hp hm hF (spn_ok hp hm hF hr k (by omega)) (hr k (by omega))
theorem SpOK.red_iff (hp : 2 ≤ p) (hm : 1 ≤ m) {k : Nat} {rows : Nat → Nat → Int} {e : EcS} (h : SpOK p m ml N k rows e) {v : Nat → Int} (hv : EntR p m N v) : lzI N (e.red p m ml v) < 0 ↔ Cl p m ml N k rows v := by
 rw [lzI_neg];have hdt : ∀ x,Sol p m ml N e.n e.a x → dt p m ml N (e.red p m ml v) x = dt p m ml N v x := fun x hx => redK_dt hp _ hx;constructor
 ·intro h0 x hx;rw [← hdt x ((h.sol x).2 hx)];exact dt_zero hp h0
 ·intro hc j hj;have := Ech.zero (ml := ml) hp hm h.ech (fun i hi => redK_zer hp hm h.ech _ (Nat.le_refl _) i hi) (fun x hx => by
   show dt p m ml N (e.red p m ml v) x = 0
   rw [hdt x hx];exact hc x ((h.sol x).1 hx)) hj
  obtain ⟨r1,r2⟩ := redK_rng (ml := ml) (a := e.a) (pl := e.pl) hp hv e.n j hj;have e2 := kin_code r1 r2;rw [this] at e2;exact e2.symm
theorem misI_neg (hp : 2 ≤ p) (hm : 1 ≤ m) {k n : Nat} {rows l : Nat → Nat → Int} {e : EcS} (h : SpOK p m ml N k rows e) (hl : ∀ i,i < n → EntR p m N (l i)) : misI p m ml N e l n < 0 ↔ ∀ i,i < n → Cl p m ml N k rows (l i) := by
 unfold misI;rw [fstI_neg];constructor
 ·intro h0 i hi;have := h0 i hi;rw [decide_eq_false_iff_not] at this;exact (h.red_iff hp hm (hl i hi)).1 (by omega)
 ·intro h0 i hi;rw [decide_eq_false_iff_not];have := (h.red_iff hp hm (hl i hi)).2 (h0 i hi);omega
end
end
section
def exJ (q : Nat) (tl sl : List Int) (j : Nat) : List (List Int × List Int) := if tl.contains (j : Int) then [] else (List.range (q - 1)).map fun c => (tl ++ [(j : Int)],sl ++ [((c + 1 : Nat) : Int)])
def exL (q : Nat) (tl sl : List Int) (n : Nat) : List (List Int × List Int) := (List.range n).flatMap (exJ q tl sl)
def foX {σ : Type} (step : σ → List Int → List Int → σ × Int) : List (List Int × List Int) → σ → σ × Int
 | [],s => (s,0)
 | x :: xs,s => if (step s x.1 x.2).2 ≠ 0 then step s x.1 x.2 else foX step xs (step s x.1 x.2).1
section
variable {σ : Type} (step : σ → List Int → List Int → σ × Int)
theorem foX_cons (x : List Int × List Int) (xs : List (List Int × List Int)) (s : σ) : foX step (x :: xs) s = if (step s x.1 x.2).2 ≠ 0 then step s x.1 x.2 else foX step xs (step s x.1 x.2).1 := rfl
theorem foX_app : ∀ (xs ys : List (List Int × List Int)) (s : σ),foX step (xs ++ ys) s = if (foX step xs s).2 ≠ 0 then foX step xs s else foX step ys (foX step xs s).1
 | [],ys,s => by simp [foX]
 | x :: xs,ys,s => by
  rw [List.cons_append,foX_cons,foX_cons];by_cases h : (step s x.1 x.2).2 ≠ 0
  ·rw [if_pos h,if_pos h,if_pos h]
  ·rw [if_neg h,if_neg h,foX_app xs ys]
theorem rnJ_succ (q : Nat) (tl sl : List Int) (j : Nat) (s : σ) : rnJ step q tl sl (j + 1) s = if (rnJ step q tl sl j s).2 ≠ 0 then rnJ step q tl sl j s else if tl.contains (j : Int) then rnJ step q tl sl j s else rnA step tl sl j (q - 1) (rnJ step q tl sl j s).1 := rfl
theorem foX_one (x : List Int × List Int) (s : σ) : foX step [x] s = step s x.1 x.2 := by
 unfold foX;split
 ·rfl
 ·rename_i h;have : (step s x.1 x.2).2 = 0 := Classical.byContradiction h;show ((step s x.1 x.2).1,(0 : Int)) = _
  rw [← this]
theorem rnA_foX (tl sl : List Int) (j : Nat) : ∀ (c : Nat) (s : σ),rnA step tl sl j c s = foX step ((List.range c).map fun c => (tl ++ [(j : Int)],sl ++ [((c + 1 : Nat) : Int)])) s
 | 0,s => rfl
 | c + 1,s => by
  rw [List.range_succ,List.map_append,foX_app,List.map_singleton,foX_one,← rnA_foX tl sl j c s];rfl
theorem rnJ_foX (q : Nat) (tl sl : List Int) : ∀ (n : Nat) (s : σ),rnJ step q tl sl n s = foX step (exL q tl sl n) s
 | 0,s => rfl
 | n + 1,s => by
  unfold exL;rw [List.range_succ,List.flatMap_append,foX_app];have ih := rnJ_foX q tl sl n s;unfold exL at ih;rw [← ih,rnJ_succ];have h1 : foX step (List.flatMap (exJ q tl sl) [n]) = foX step (exJ q tl sl n) := by simp
  rw [h1];unfold exJ;by_cases h : (rnJ step q tl sl n s).2 ≠ 0
  ·rw [if_pos h,if_pos h]
  ·rw [if_neg h,if_neg h];by_cases hc : tl.contains (n : Int) = true
   ·rw [if_pos hc,if_pos hc];have : (rnJ step q tl sl n s).2 = 0 := Classical.byContradiction h;show _ = ((rnJ step q tl sl n s).1,(0 : Int))
    rw [← this]
   ·rw [if_neg hc,if_neg hc,rnA_foX]
end
theorem exL_len {q n : Nat} {tl sl : List Int} : ∀ x ∈ exL q tl sl n,x.1.length = tl.length + 1 ∧ x.2.length = sl.length + 1 := fun x hx => by
 unfold exL exJ at hx;rw [List.mem_flatMap] at hx;obtain ⟨j,-,hx⟩ := hx;split at hx
 ·cases hx
 ·rw [List.mem_map] at hx;obtain ⟨c,-,rfl⟩ := hx;simp
def lastB (first : Bool) (l : List Int) : Int := if first = true then 0 else l.getD (l.length - 1) 0
section
variable (p m : Nat) (ml : List Int) (l1 l2 : List (List Int)) (n : Nat)
def flRB (first : Bool) (es : List Rf) (tl sl : List Int) (X : List Rf → Option (List Rf)) : Option (List Rf) := match es with
 | [] => none
 | e :: rest =>
  if e.tp ≠ lastB first tl ∨ e.sc ≠ lastB first sl ∨ e.side < -1 ∨ 1 < e.side then none else
  if e.side ≠ -1 then (if shwB p m ml l1 l2 tl sl e.side e.msg = true then some rest else none) else
  if 0 < e.msg.length ∨ tl.length = n then none else X rest
def flR : Nat → Bool → List Rf → List Int → List Int → Option (List Rf)
 | 0,first,es,tl,sl => flRB p m ml l1 l2 n first es tl sl fun _ => none
 | d + 1,first,es,tl,sl => flRB p m ml l1 l2 n first es tl sl fun rest => (exL (p ^ m) tl sl n).foldl (fun s x => s.bind fun r => flR d false r x.1 x.2) (some rest)
end
theorem foldl_none (f : List Rf → List Int × List Int → Option (List Rf)) : ∀ xs : List (List Int × List Int),xs.foldl (fun s x => s.bind fun r => f r x) none = none
 | [] => rfl
 | x :: xs => foldl_none f xs
def SameF (es : List Rf) (k : Nat) (a : Nat × Int) (b : Option (List Rf)) : Prop := (∃ k',k ≤ k' ∧ k' ≤ es.length ∧ a = (k',0) ∧ b = some (es.drop k')) ∨ (a.2 = 13 ∧ b = none)
section
variable {p m : Nat} {ml : List Int} {l1 l2 : List (List Int)} {n : Nat} {es : List Rf}
theorem flRB_cons (first : Bool) (e : Rf) (rest : List Rf) (tl sl : List Int) (X : List Rf → Option (List Rf)) : flRB p m ml l1 l2 n first (e :: rest) tl sl X =
  if e.tp ≠ lastB first tl ∨ e.sc ≠ lastB first sl ∨ e.side < -1 ∨ 1 < e.side then none else
  if e.side ≠ -1 then (if shwB p m ml l1 l2 tl sl e.side e.msg = true then some rest else none) else
  if 0 < e.msg.length ∨ tl.length = n then none else X rest := rfl
theorem flB_flRB {k : Nat} {tl sl : List Int} (X : Nat × Int) (Y : List Rf → Option (List Rf)) (htl : tl.length ≤ n) (hk : k ≤ es.length)
  (hX : k < es.length → tl.length < n → SameF es (k + 1) X (Y (es.drop (k + 1)))) :
  SameF es k (flB p m ml l1 l2 n es k tl sl X) (flRB p m ml l1 l2 n (decide (k = 0)) (es.drop k) tl sl Y) := by
 have hl : ∀ l,lastB (decide (k = 0)) l = lastA k l := fun l => by unfold lastB lastA;simp
 unfold flB;by_cases h0 : k = es.length
 ·rw [if_pos h0,h0,List.drop_length];exact .inr ⟨rfl,rfl⟩
 ·rw [if_neg h0];have hlt : k < es.length := by omega
  have he : es.drop k = es.getD k dRf :: es.drop (k + 1) := by
   rw [List.drop_eq_getElem_cons hlt,List.getD_eq_getElem?_getD,List.getElem?_eq_getElem hlt];rfl
  rw [he,flRB_cons,hl,hl];generalize es.getD k dRf = e;by_cases h1 : e.tp ≠ lastA k tl ∨ e.sc ≠ lastA k sl
  ·rw [if_pos h1,if_pos (by rcases h1 with h | h;exact .inl h;exact .inr (.inl h))];exact .inr ⟨rfl,rfl⟩
  ·rw [if_neg h1];have h1a : ¬ e.tp ≠ lastA k tl := fun h => h1 (.inl h);have h1b : ¬ e.sc ≠ lastA k sl := fun h => h1 (.inr h);by_cases h2 : e.side = -1
   ·rw [if_neg (show ¬ (e.tp ≠ lastA k tl ∨ e.sc ≠ lastA k sl ∨ e.side < -1 ∨ 1 < e.side) from by rintro (h | h | h | h) <;> first | exact h1a h | exact h1b h | omega),if_neg (show ¬ e.side ≠ -1 from fun h => h h2)];by_cases h3 : e.msg.length = 0 ∧ tl.length < n
    ·rw [if_pos ⟨h2,h3⟩,if_neg (by rintro (h | h) <;> omega)];rcases hX hlt h3.2 with ⟨k',a,b,c,d⟩ | h
     ·exact .inl ⟨k',by omega,b,c,d⟩
     ·exact .inr h
    ·rw [if_neg (fun h => h3 h.2),if_neg (by rintro ⟨h | h,_⟩ <;> omega),if_pos (by
      by_cases h4 : 0 < e.msg.length
      ·exact .inl h4
      ·exact .inr (by have : ¬ (e.msg.length = 0 ∧ tl.length < n) := h3;have : ¬ tl.length < n := fun h => h3 ⟨by omega,h⟩;omega))]
     exact .inr ⟨rfl,rfl⟩
   ·rw [if_neg (fun h => h2 h.1)];by_cases h3 : e.side = 0 ∨ e.side = 1
    ·rw [if_neg (show ¬ (e.tp ≠ lastA k tl ∨ e.sc ≠ lastA k sl ∨ e.side < -1 ∨ 1 < e.side) from by rintro (h | h | h | h) <;> first | exact h1a h | exact h1b h | omega),if_pos (show e.side ≠ -1 from h2)];by_cases h4 : shwB p m ml l1 l2 tl sl e.side e.msg = true
     ·rw [if_pos ⟨h3,h4⟩,if_pos h4];exact .inl ⟨k + 1,by omega,by omega,rfl,rfl⟩
     ·rw [if_neg (fun h => h4 h.2),if_neg h4];exact .inr ⟨rfl,rfl⟩
    ·rw [if_neg (fun h => h3 h.1),if_pos (show (e.tp ≠ lastA k tl ∨ e.sc ≠ lastA k sl ∨ e.side < -1 ∨ 1 < e.side) from by
      right;right;omega)]
     exact .inr ⟨rfl,rfl⟩
theorem foX_flR {d : Nat} (ih : ∀ (k : Nat) (tl sl : List Int),tl.length ≤ n → k ≤ es.length → SameF es k (flF p m ml l1 l2 n es d k tl sl) (flR p m ml l1 l2 n d (decide (k = 0)) (es.drop k) tl sl)) :
  ∀ (xs : List (List Int × List Int)) (k : Nat),(∀ x ∈ xs,x.1.length ≤ n) → 0 < k → k ≤ es.length → SameF es k (foX (flF p m ml l1 l2 n es d) xs k) (xs.foldl (fun s x => s.bind fun r => flR p m ml l1 l2 n d false r x.1 x.2) (some (es.drop k)))
 | [],k,hx,h0,hk => .inl ⟨k,Nat.le_refl _,hk,rfl,rfl⟩
 | x :: xs,k,hx,h0,hk => by
  have h1 := ih k x.1 x.2 (hx x List.mem_cons_self) hk;rw [show decide (k = 0) = false from decide_eq_false (by omega)] at h1;rw [List.foldl_cons];show SameF es k _ (List.foldl _ (flR p m ml l1 l2 n d false (es.drop k) x.1 x.2) xs)
  unfold foX;rcases h1 with ⟨k',a,b,c,e⟩ | ⟨c,e⟩
  ·rw [c,e,if_neg (by simp)];rcases foX_flR ih xs k' (fun y hy => hx y (List.mem_cons_of_mem _ hy)) (by omega) b with ⟨k2,a2,b2,c2,e2⟩ | h
   ·exact .inl ⟨k2,by omega,b2,c2,e2⟩
   ·exact .inr h
  ·rw [e,if_pos (by rw [c];decide),foldl_none];exact .inr ⟨c,rfl⟩
theorem flF_flR : ∀ (d k : Nat) (tl sl : List Int),tl.length ≤ n → k ≤ es.length → SameF es k (flF p m ml l1 l2 n es d k tl sl) (flR p m ml l1 l2 n d (decide (k = 0)) (es.drop k) tl sl)
 | 0,k,tl,sl,h1,h2 => flB_flRB _ _ h1 h2 fun _ _ => .inr ⟨rfl,rfl⟩
 | d + 1,k,tl,sl,h1,h2 => flB_flRB _ _ h1 h2 fun h3 h4 => by
  rw [rnJ_foX];exact foX_flR (flF_flR d) _ _ (fun x hx => by have := (exL_len x hx).1;omega) (by omega) (by omega)
end
end
end Go.Proofs.YtgdmlmhpineibaaGreat
