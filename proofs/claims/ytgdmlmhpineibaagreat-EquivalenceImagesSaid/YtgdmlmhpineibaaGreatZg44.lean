/- Walk of equivalence.Apply. -/
import Derived.Deep.CutRange
import Derived.Test.YtgdmlmhpineibaaGreatZg31
import Derived.Test.YtgdmlmhpineibaaGreatZg43
namespace Go.Proofs.YtgdmlmhpineibaaGreat
set_option linter.unusedVariables false
set_option linter.unusedSimpArgs false
set_option maxRecDepth 100000
set_option maxHeartbeats 8000000
open Go.RowKit
structure LSt (w1 wr:World) (E:Nat) (n:Int) (M:List (List Int)) (rv:Value) (vals:List Value):Prop where
 c0:wr.cell? ⟨E,0,none⟩=some (.int .i64 n)
 c1:wr.cell? ⟨E,1,none⟩=some rv
 f1:wr.frozen? ⟨E,1,none⟩=false
 rows:MRows wr (E + 1) rv M vals
 lb:w1.heap.size≤E
 ex:Ex w1 wr
section
variable {w1 wr w':World} {E:Nat} {n:Int} {M:List (List Int)} {rv v' l:Value} {vals:List Value} {L:List Int}
theorem LSt.later (h:LSt w1 wr E n M rv vals) (hx:Ex wr w'):LSt w1 w' E n M rv vals:=
 ⟨hx.cell h.c0,hx.cell h.c1,hx.frz h.c1 h.f1,h.rows.ex hx,h.lb,h.ex.trans hx⟩
theorem LSt.at1 (h:LSt w1 wr E n M rv vals) (ha:Appd wr w' (E + 1) 22 1 rv v' M.length vals [l]):w'.cell? ⟨E,1,none⟩=some rv∧w'.frozen? ⟨E,1,none⟩=false:=
 ⟨ha.cell h.c1 (fun e=> est_ne h.rows.cvo e.symm),ha.frz h.c1 h.f1 (fun e=> est_ne h.rows.cvo e.symm)⟩
theorem LSt.app1 (h:LSt w1 wr E n M rv vals) (hl:wr.ownsRow (E + 1) 3 1 l L.length (ints L)) (h1:Aprt l rv) (ha:Appd wr w' (E + 1) 22 1 rv v' M.length vals [l]):
  LSt w1 (w'.setCell ⟨E,1,none⟩ v') E n (M ++ [L]) v' (vals ++ [l]):=by
 have hne:some E≠rv.ownBlock:=fun e=> est_ne h.rows.cvo e.symm;have hm:=h.rows.app hl h1 ha;refine ⟨?_,World.cell?_setCell_same _ _ _ (ha.cell h.c1 hne),?_,hm.setNe (a:=⟨E,1,none⟩) (by show E < E + 1;omega) v',h.lb,(ha.ex h.ex (by have:=h.lb;omega)).setCell (p:=⟨E,1,none⟩) h.lb _⟩
 ·rw [cell_set_off (by decide)];exact ha.cell h.c0 hne
 ·rw [efrz_set];exact ha.frz h.c1 h.f1 hne
end
theorem LSt.new (w1:World) (n:Int):LSt w1 (w1.alloc (.cells #[.int .i64 n,.slice none 0 0] 113)) w1.heap.size n [] (.slice none 0 0) [] where
 c0:=by simp
 c1:=by simp
 f1:=by simp
 rows:=MRows.nil _ _
 lb:=Nat.le_refl _
 ex:=(Ex.refl _).alloc _
def imL (p m:Nat) (ml pl sl:List Int) (fr N:Nat) (rows:List (List Int)) (k:Nat):List (List Int):=(rows.take k).map fun x=> il N (imgF p m ml pl sl fr x N)
theorem imL_len {p m:Nat} {ml pl sl:List Int} {fr N:Nat} {rows:List (List Int)} {k:Nat} (h:k≤rows.length):(imL p m ml pl sl fr N rows k).length=k:=by
 unfold imL;simp;omega
theorem imL_succ {p m:Nat} {ml pl sl:List Int} {fr N:Nat} {rows:List (List Int)} {k:Nat} (h:k < rows.length):imL p m ml pl sl fr N rows (k + 1)=imL p m ml pl sl fr N rows k ++ [il N (imgF p m ml pl sl fr (rows[k]'h) N)]:=by
 unfold imL;rw [List.take_add_one,List.getElem?_eq_getElem h,List.map_append];rfl
def imA (p m:Int) (ml pl sl:List Int) (fr n:Int) (rows:List (List Int)):List (List Int):=imL p.toNat m.toNat ml pl sl fr.toNat n.toNat rows rows.length
def AppR (p m:Int) (ml:List Int) (n:Int) (rows:List (List Int)) (pl sl:List Int) (fr:Int) (b0:Nat) (r:Ending) (w':World):Prop:=
 ∃e1:Int,CodO p m ml n rows e1∧
  ((e1≠0∧r= .returned (.tuple #[.agg #[.int .i64 0,.int .i64 0,.slice none 0 0,.int .i64 0,.slice none 0 0],.int .i64 e1]))∨
  (e1=0∧monS p m ml n pl sl fr≠0∧r= .returned (.tuple #[.agg #[.int .i64 0,.int .i64 0,.slice none 0 0,.int .i64 0,.slice none 0 0],.int .i64 (monS p m ml n pl sl fr)]))∨
  (e1=0∧monS p m ml n pl sl fr=0∧CNewR p m ml n (imA p m ml pl sl fr n rows) b0 r w'))
theorem Apply_any (w:World) (p m:Int) (ml:List Int) (mv:Value) (hmv:ISl w mv ml) (n:Int) (rows:List (List Int)) (v:Value) (hv:MSl w v rows) (pl sl:List Int) (pv sv:Value) (hp:ISl w pv pl) (hs:ISl w sv sl) (fr:Int):
  Calls Tryz.prog 38 #[.agg #[.int .i64 p,.int .i64 m,mv,.int .i64 n,v],.agg #[pv,sv,.int .i64 fr]] w fun r w'=> AppR p m ml n rows pl sl fr w.heap.size r w'∧Ex w w':=by
 obtain ⟨c0,c1,c2,c3,c4,ea⟩:=boxC_facts w p m mv n v;obtain ⟨b0,b1,b2,eb⟩:=boxMo_facts (w.alloc (.cells #[.int .i64 p,.int .i64 m,mv,.int .i64 n,v] 47)) pv sv fr;have asz:(w.alloc (.cells #[.int .i64 p,.int .i64 m,mv,.int .i64 n,v] 47)).heap.size=w.heap.size + 1:=by simp
 have bsz:((w.alloc (.cells #[.int .i64 p,.int .i64 m,mv,.int .i64 n,v] 47)).alloc (.cells #[pv,sv,.int .i64 fr] 26)).heap.size=w.heap.size + 1 + 1:=by simp
 rw [asz] at b0 b1 b2;replace c0:=eb.cell c0;replace c1:=eb.cell c1;replace c2:=eb.cell c2;replace c3:=eb.cell c3;replace c4:=eb.cell c4;have HX:=hid_ (ea.trans eb);have HM:=hid_ hmv;have HV:=hid_ hv;have HP:=hid_ hp;have HS:=hid_ hs;obtain ⟨va,vc,rfl,-,q1,v3⟩:=hv.open;obtain ⟨ma,mc,rfl,-,q2,-⟩:=hmv.open;obtain ⟨pa,pc,rfl,-,q3,-⟩:=hp.open;obtain ⟨sa,sc,rfl,-,q4,-⟩:=hs.open;unfold maxLen at q1 q2 q3 q4;have V3:=hid_ v3;obtain ⟨B,hB⟩:∃B,w.heap.size=B:=⟨_,rfl⟩;rw [hB] at c0 c1 c2 c3 c4 b0 b1 b2 bsz;clear hmv hv hp hs ea eb asz v3;go_enter Tryz.func38,Tryz.ntmps38
 go_upto_region 1 with fail
 try simp only [hB]
 have HB:=hid_ hB;clear hB;generalize (w.alloc (.cells #[.int .i64 p,.int .i64 m,.slice ma ml.length mc,.int .i64 n,.slice va rows.length vc] 47)).alloc (.cells #[.slice pa pl.length pc,.slice sa sl.length sc,.int .i64 fr] 26)=wB at *;have bq:=BxC.new wB;rw [bsz] at bq;have ec:Ex wB _:=e_al wB (.cells #[.int .i64 0,.int .i64 0,.slice none 0 0,.int .i64 0,.slice none 0 0] 47);have csz:(wB.alloc (.cells #[.int .i64 0,.int .i64 0,.slice none 0 0,.int .i64 0,.slice none 0 0] 47)).heap.size=B + 1 + 1 + 1:=by simp [bsz]
 try simp only [bsz]
 generalize wB.alloc (.cells #[.int .i64 0,.int .i64 0,.slice none 0 0,.int .i64 0,.slice none 0 0] 47)=wC at *;have HALL:=hid_ (fun w' (h:Ex wC w')=> (⟨h.cell (ec.cell c0),h.cell (ec.cell c1),h.cell (ec.cell c2),h.cell (ec.cell c3),h.cell (ec.cell c4),h.cell (ec.cell b0),h.cell (ec.cell b1),h.cell (ec.cell b2)⟩:_∧_∧_∧_∧_∧_∧_∧_));have BQ:=hid_ bq;have HXC:=hid_ (HX.out.trans ec);have CSZ:=hid_ csz;have HCK:=hid_ (codeCheck_any wC p m ml _ (HM.out.ex HXC.out) n rows _ (HV.out.ex HXC.out));clear c0 c1 c2 c3 c4 b0 b1 b2 bq ec csz bsz HX;obtain ⟨c0,c1,c2,c3,c4,b0,b1,b2⟩:=HALL.out wC (Ex.refl _);go_wp2_with fail
 refine HCK.out.mono ?_;rintro e w2 ⟨⟨e1,rfl,ho1⟩,hx2⟩;clear c0 c1 c2 c3 c4 b0 b1 b2 HCK;obtain ⟨c0,c1,c2,c3,c4,b0,b1,b2⟩:=HALL.out w2 hx2;have HX2:=hid_ hx2;have HO1:=hid_ ho1;clear hx2 ho1;by_cases h1:e1=0
 ·subst h1;have HF:=hid_ (codO_fld HO1.out);have HR:=hid_ (codO_rows HO1.out);have HOP:=hid_ (eOpen_any w2 p m ml _ (HM.out.ex (HXC.out.trans HX2.out)) n pl sl _ _ (HP.out.ex (HXC.out.trans HX2.out)) (HS.out.ex (HXC.out.trans HX2.out)) fr);obtain ⟨E,hE⟩:∃E,monS p m ml n pl sl fr=E:=⟨_,rfl⟩;rw [hE] at HOP;have HE:=hid_ hE;clear hE;go_wp2_with fail
  refine HOP.out.mono ?_;rintro e w3 ⟨ho,hx3⟩;clear c0 c1 c2 c3 c4 b0 b1 b2 HOP;obtain ⟨c0,c1,c2,c3,c4,b0,b1,b2⟩:=HALL.out w3 (HX2.out.trans hx3);have HX3:=hid_ (HX2.out.trans hx3);clear hx3 HX2;rcases ho with ⟨rfl,b,pn,mn,x0,rfl,rfl,rfl,hg,x1,x2'⟩ | ⟨h0,ptr,rfl⟩
  ·obtain ⟨_,n1,n2,n3,n4,n5,n6,n7,_,_⟩:=mon_ok HE.out;obtain ⟨fn,rfl⟩:∃fn:Nat,fr=fn:=⟨fr.toNat,by omega⟩;obtain ⟨N,rfl⟩:∃N:Nat,n=N:=⟨n.toNat,by omega⟩;have HR2:=HR.out.1;have hrl:∀r∈rows,r.length=N:=fun r hr=> by have:=HR.out.2 r hr;omega
   have HRL:=hid_ hrl;have HNN:=hid_ (show 1≤N∧N≤64∧ml.length≤1000 from ⟨by omega,by omega,by have h:=hg.sh.len;have h8:=hg.sh.m8;rw [h];split <;> omega⟩);have HIM:=hid_ (fun (w1:World) (h1:Ex w3 w1) (x:List Int) (xv:Value) (hx:ISl w1 xv x) (hxl:x.length=N)=> image_any w1 (hg.ex h1) N (by omega) pl sl x _ _ xv (HP.out.ex ((HXC.out.trans HX3.out).trans h1)) (HS.out.ex ((HXC.out.trans HX3.out).trans h1)) hx fn (by omega) (by omega) (by omega) hxl n5);have HF1:=hid_ (show imA pn mn ml pl sl fn N rows=imL pn mn ml pl sl fn N rows rows.length from by unfold imA;simp only [Int.toNat_natCast]);clear n1 n2 n3 n4 n5 n6 n7 hrl x1 x2' hg HR;go_upto_region 8 with fail
   obtain ⟨F,hF⟩:∃F,w3.heap.size=F:=⟨_,rfl⟩;have hs0:=LSt.new w3 (N:Int)
   try simp only [hF]
   rw [hF] at hs0;have HS0:=hid_ hs0;have HFW:=hid_ hF;have ec:=e_al w3 (.cells #[.int .i64 N,.slice none 0 0] 113);generalize w3.alloc (.cells #[.int .i64 N,.slice none 0 0] 113)=w4 at *;clear c0 c1 c2 c3 c4 b0 b1 b2 hF hs0;obtain ⟨c0,c1,c2,c3,c4,b0,b1,b2⟩:=HALL.out w4 (HX3.out.trans ec);have EC:=hid_ ec;clear ec;go_wp2_with fail
   go_loopw [37] (fun i' wr=> ∃(k:Nat) (rv:Value) (vals:List Value),k≤rows.length∧i'= .int .i64 k∧Hid (LSt w3 wr F N (imL pn mn ml pl sl fn N rows k) rv vals)) (fun i' _=> rows.length - (intOf i').toNat)
   case atStart=> exact ⟨0,_,_,by omega,rfl,HS0⟩
   case round=>
    clear HS0 c0 c1 c2 c3 c4 b0 b1 b2;obtain ⟨k,rv,vals,hk,rfl,hst⟩:=hrel;by_cases hkR:k < rows.length
    ·obtain ⟨rb,ro,rfl,hrc⟩:=V3.out (by omega);obtain ⟨uv,huc,hui⟩:=hrc k _ (List.getElem?_eq_getElem hkR);have HW4:=hid_ hst.out.ex;have cu:=((HXC.out.trans HX3.out).trans HW4.out).cell huc;have i1:(0:Int)≤(k:Int):=by omega
     have i2:(k:Int) < (rows.length:Int):=by omega
     obtain ⟨x,hx⟩:∃x,rows[k]=x:=⟨_,rfl⟩;have HXS:=hid_ (imL_succ (p:=pn) (m:=mn) (ml:=ml) (pl:=pl) (sl:=sl) (fr:=fn) (N:=N) hkR);have HXL:=hid_ (show x.length=N from hx ▸ HRL.out _ (List.getElem_mem hkR));rw [hx] at HXS hui;have HUI:=hid_ (hui.ex ((HXC.out.trans HX3.out).trans HW4.out));have HLN:=hid_ (imL_len (p:=pn) (m:=mn) (ml:=ml) (pl:=pl) (sl:=sl) (fr:=fn) (N:=N) hk);have HST:=hid_ hst.out;obtain ⟨b0,b1,b2⟩:=(HALL.out wr (HX3.out.trans HW4.out)).2.2.2.2.2;have t1:=hst.out.c1;have T1F:=hid_ hst.out.f1;obtain ⟨qa,qc,hqv⟩:=own_shape hst.out.rows.cvo;subst hqv;rw [imL_len (by omega)] at t1;have HTT:=hid_ t1;obtain ⟨ua,uc,rfl,-,u2,-⟩:=hui.open;unfold maxLen at u2;have HSX:=hid_ (fun (w1:World) (h1:Ex wr w1)=> HIM.out w1 (HW4.out.trans h1) x _ (HUI.out.ex h1) HXL.out);clear hrc huc hui hx hst;go_upto_region 11 with fail
     have HXG:=hid_ (show Ex wr wr.drew from (Ex.refl wr).drew)
     go_region_law
      ((first
              | (refine step_append_sl (by rfl) _ _ _ (by rfl) (F + 1) 22 (.slice none 0 0) 1 24 Tryz.underlying45 infoIntsL rfl (by decide) (.slice qa k qc) k vals (by rfl) (by have h:=ownsRow_ex HST.out.rows.cvo ((HXG.out.trans hx5).trans (e_al w5 (.cells #[.slice (some ⟨g5,0,none⟩) N N] 22)));rw [HLN.out] at h;exact h) _ 1 [.slice (some ⟨g5,0,none⟩) N N] (by rfl) (Sl.own (own_lit1 w5 (.slice (some ⟨g5,0,none⟩) N N) 22)) (by simp [Value.oneCell']) (by unfold maxLen;omega) (by omega) (by have:=HS5.out;simp;omega) ?_;intro v8 w8 hown8 hg8 ha8;have HAP:=hid_ (e_appd (by have h:=ownsRow_ex HST.out.rows.cvo (HXG.out.trans hx5);rw [HLN.out] at h;exact h) hown8 hg8 ha8);obtain ⟨t1y,t2y⟩:=(HST.out.later (HXG.out.trans hx5)).at1 (by rw [HLN.out];exact HAP.out);rw [HLN.out] at t1y;obtain ⟨va8,vc8,hv8⟩:=own_shape hown8;subst hv8)
              | (go_simp;refine (HSX.out _ HXG.out).mono ?_;rintro e w5 ⟨g5,rfl,ho5,hx5⟩;have t1:=hx5.cell (show wr.drew.cell? ⟨F,1,none⟩=some (.slice qa k qc) from HTT.out);have t1x:=(e_al w5 (.cells #[.slice (some ⟨g5,0,none⟩) N N] 22)).cell t1;have HS5:=hid_ (show F + 1≤w5.heap.size from by have h1:=ho5.lt;have h2:=World.block_lt_of_cell? _ _ t1;exact h2);go_simp)))
     all_goals
      have hx5':=HXG.out.trans hx5;have HS5':=HST.out.later hx5';have hl5:w5.ownsRow (F + 1) 3 1 (.slice (some ⟨g5,0,none⟩) N N) (il N (imgF pn mn ml pl sl fn x N)).length (ints (il N (imgF pn mn ml pl sl fn x N))):=by
       rw [il_len,ints_il];exact ownsRow_mono ho5 (World.block_lt_of_cell? _ _ (HXG.out.cell HTT.out))
      have ha1:∀v2 (e2:TypeId) (n2:Nat) xs2,wr.ownsRow (F + 1) e2 1 v2 n2 xs2→Aprt (.slice (some ⟨g5,0,none⟩) N N) v2:=fun v2 e2 n2 xs2 h=> by
       right;show some g5≠_
       intro e;have h1:=(h.lt g5 e.symm).2;have h2:=ho5.lt.1;have h3:=HXG.out.size;omega
      have HS8:=hid_ (HS5'.app1 hl5 (ha1 _ _ _ _ HST.out.rows.cvo) (by rw [HLN.out];exact HAP.out));rw [←HXS.out] at HS8;clear HS5' hl5 ha1 hx5' t1y t2y t1 t1x HAP hown8 hg8 ha8 ho5 hx5 HSX;go_wp2_with fail
      go_roundw
      case rel=> first | exact ⟨k + 1,_,_,by omega,by go_num,HS8⟩ | ((repeat apply Exists.intro);exact ⟨⟨k + 1,_,_,by omega,by go_num,HS8⟩,rfl⟩)
      case measure=> simp [intOf];omega
    ·obtain rfl:k=rows.length:=by omega
     have HST:=hid_ hst.out;obtain ⟨c0,c1,c2,c3,c4,-,-,-⟩:=HALL.out wr (HX3.out.trans hst.out.ex);have t0:=hst.out.c0;have t1:=hst.out.c1;have HXW:=hid_ ((HXC.out.trans HX3.out).trans hst.out.ex);have HXD:=hid_ (HX3.out.trans hst.out.ex);obtain ⟨qa,qc,hqv⟩:=own_shape hst.out.rows.cvo;subst hqv;have HLN:=hid_ (imL_len (p:=pn) (m:=mn) (ml:=ml) (pl:=pl) (sl:=sl) (fr:=fn) (N:=N) (Nat.le_refl rows.length));have HNW:=hid_ (codeNew_any wr pn mn ml _ (HM.out.ex HXW.out) HNN.out.2.2 N _ _ HST.out.rows.msl (fun _=> by have:=HNN.out.1;omega));rw [HLN.out] at t1 HNW;clear hst;go_wp2_with fail
     refine HNW.out.mono ?_;rintro e w7 ⟨hc,hx7⟩;obtain ⟨q0,q1,q2,q3,q4,qf0,qf1,qf2,qf3,qf4⟩:=BQ.out.ex (HXD.out.trans hx7);have X7:=hid_ (HXW.out.trans hx7);have hw:=HB.out;have HSW:=hid_ (show B + 1 + 1 < wr.heap.size from World.block_lt_of_cell? _ _ (BQ.out.ex HXD.out).c0);clear hx7 HNW;rcases hc with ⟨hne,rfl⟩ | ⟨hne,pn',mn',N',piv,a',rv,v',e1,e2,e3,hfb,hmk,rfl,hel,hv',hrv,hb',g,blk,cap,base,hbase,rfl,hem,hp2,hr2⟩
     ·have HNE:=hid_ hne;have HFE:=hid_ HF1.out;obtain ⟨Z,hZ⟩:∃Z,newE pn mn ml N (imL pn mn ml pl sl fn N rows rows.length)=Z:=⟨_,rfl⟩;rw [hZ] at HNE
      try rw [hZ]
      have HZ:=hid_ hZ;clear hne hZ;go_wp2_with fail
      exact bodyPost_ret (v:= .tuple #[.agg #[.int .i64 0,.int .i64 0,.slice none 0 0,.int .i64 0,.slice none 0 0],.int .i64 Z]) (by simp [results,Tryz.results38,go_sem,q0,q1,q2,q3,q4]) rfl ⟨⟨0,HO1.out,.inr (.inr ⟨rfl,HE.out,.inl ⟨by rw [HF1.out,HZ.out];exact HNE.out,by rw [HF1.out,HZ.out]⟩⟩)⟩,set5_ex X7.out (by omega) _ _ _ _ _⟩
     ·have hw7:=HSW.out;have hww:=HXW.out.size;have HEL:=hid_ (((((hem.low (A:=⟨B + 1 + 1,0,none⟩) (by show B + 1 + 1 < base;omega) (.int .i64 pn)).low (A:=⟨B + 1 + 1,1,none⟩) (by show B + 1 + 1 < base;omega) (.int .i64 mn)).low (A:=⟨B + 1 + 1,2,none⟩) (by show B + 1 + 1 < base;omega) v').low (A:=⟨B + 1 + 1,3,none⟩) (by show B + 1 + 1 < base;omega) (.int .i64 N)).low (A:=⟨B + 1 + 1,4,none⟩) (by show B + 1 + 1 < base;omega) (.slice (some ⟨g,0,none⟩) piv.length piv.length));have HB1:=hid_ (show ∀B',v'.ownBlock=some B'→B'≠B + 1 + 1 from fun B' h=> by have:=hb' B' h;omega);have HB2:=hid_ (show ∀B',v'.ownBlock=some B'→w.heap.size≤B' from fun B' h=> by have:=hb' B' h;omega);have HLO:=hid_ (show w.heap.size≤base from by omega);have HOK:=hid_ (show newE pn mn ml N (imL pn mn ml pl sl fn N rows rows.length)=0∧FldB pn mn ml∧mchkS (pn ^ mn) N (imL pn mn ml pl sl fn N rows rows.length)=0∧ElO pn mn ml N (imL pn mn ml pl sl fn N rows rows.length).length (rowsF (imL pn mn ml pl sl fn N rows rows.length)) a' piv from by
       obtain rfl:pn=pn':=by omega
       obtain rfl:mn=mn':=by omega
       obtain rfl:N=N':=by omega
       exact ⟨hne,hfb,hmk,hel⟩)
      obtain rfl:N=N':=by omega
      have HPV:=hid_ hp2;have HPR:=hid_ hr2;have HMS:=hid_ (HEL.out.msl hp2 hr2);have HVV:=hid_ hv';have HEQ:=hid_ (show pn=pn'∧mn=mn' from ⟨by omega,by omega⟩);obtain ⟨xa,xc,rfl,-,-,-⟩:=hv'.open;clear hne hfb hmk hel hv' hrv hb' hbase hem hp2 hr2 hw7 hww e1 e2 e3;go_wp2_with fail
      exact bodyPost_ret (v:= .tuple #[.agg #[.int .i64 pn,.int .i64 mn,.slice xa ml.length xc,.int .i64 N,.slice (some ⟨g,0,none⟩) piv.length piv.length],.int .i64 0]) (by simp [results,Tryz.results38,go_sem,q0,q1,q2,q3,q4]) rfl ⟨⟨0,HO1.out,.inr (.inr ⟨rfl,HE.out,by rw [HF1.out];exact .inr ⟨HOK.out.1,pn,mn,N,piv,a',_,_,rfl,rfl,rfl,HOK.out.2.1,HOK.out.2.2.1,rfl,HOK.out.2.2.2,set5_isl HVV.out HB1.out _ _ _ _ _,HMS.out,HB2.out,g,blk,cap,base,HLO.out,rfl,HEL.out,HPV.out,HPR.out⟩⟩)⟩,set5_ex X7.out (by omega) _ _ _ _ _⟩
  ·have k1:(E==0)=false:=by simpa using h0
   obtain ⟨q0,q1,q2,q3,q4,qf0,qf1,qf2,qf3,qf4⟩:=BQ.out.ex HX3.out;have H0:=hid_ h0;have hw:=HB.out;clear h0;go_wp2_with fail
   exact bodyPost_ret (v:= .tuple #[.agg #[.int .i64 0,.int .i64 0,.slice none 0 0,.int .i64 0,.slice none 0 0],.int .i64 E]) (by simp [results,Tryz.results38,go_sem,q0,q1,q2,q3,q4]) rfl ⟨⟨0,HO1.out,.inr (.inl ⟨rfl,by rw [HE.out];exact H0.out,by rw [HE.out]⟩)⟩,set5_ex (HXC.out.trans HX3.out) (by omega) _ _ _ _ _⟩
 ·have k1:(e1==0)=false:=by simpa using h1
  obtain ⟨q0,q1,q2,q3,q4,qf0,qf1,qf2,qf3,qf4⟩:=BQ.out.ex HX2.out;have H1:=hid_ h1;have hw:=HB.out;clear h1;go_wp2_with fail
  exact bodyPost_ret (v:= .tuple #[.agg #[.int .i64 0,.int .i64 0,.slice none 0 0,.int .i64 0,.slice none 0 0],.int .i64 e1]) (by simp [results,Tryz.results38,go_sem,q0,q1,q2,q3,q4]) rfl ⟨⟨e1,HO1.out,.inl ⟨H1.out,rfl⟩⟩,set5_ex (HXC.out.trans HX2.out) (by omega) _ _ _ _ _⟩
end Go.Proofs.YtgdmlmhpineibaaGreat
