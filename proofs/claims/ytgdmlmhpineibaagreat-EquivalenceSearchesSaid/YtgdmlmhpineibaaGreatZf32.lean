/- Walks of the echelon's missing, the pair's sides, unit, the pair's witness. -/
import Derived.Test.YtgdmlmhpineibaaGreatZf31
namespace Go.Proofs.YtgdmlmhpineibaaGreat
set_option linter.unusedVariables false
set_option linter.unusedSimpArgs false
set_option maxRecDepth 100000
set_option maxHeartbeats 4000000
section
open Go.RowKit
section
variable {b p m x0:Nat} {ml:List Int}
theorem missing1_any (w:World) (hg:GFat w b p m ml x0) (B E t:Nat) (ht:t≤1000) (e:EcS) (rv pv:Value) (hE:EchAt w E b t e rv pv) (hpl:∀i,i < e.n→e.pl i < t) (f:Nat→Int) (uv:Value) (hu:ISl w uv (il t f)) (c0:w.cell? ⟨B,0,none⟩=some (.pointer (some ⟨E,0,none⟩))):
  Calls Tryz.prog 154 #[uv,.pointer (some ⟨B,0,none⟩)] w fun r w'=> r= .returned (.bool (decide (0≤lzI t (e.red p m ml f))))∧Ex w w':=by
 have HR:=hid_ (reduce_any w hg E t ht e rv pv hE hpl f uv hu);obtain ⟨z,hz⟩:∃z,lzI t (e.red p m ml f)=z:=⟨_,rfl⟩;rw [hz] at HR ⊢;clear hg hE hu hz hpl;go_enter Tryz.func154,Tryz.ntmps154
 go_wp2_with fail
 refine HR.out.mono ?_;rintro e' w1 ⟨v1,rfl,-,hx1⟩;have HX:=hid_ hx1;clear hx1;go_wp2_with fail
 go_ret;exact ⟨rfl,HX.out⟩
theorem missing_any (w:World) (hg:GFat w b p m ml x0) (E t:Nat) (ht:t≤1000) (e:EcS) (rv pv:Value) (hE:EchAt w E b t e rv pv) (hpl:∀i,i < e.n→e.pl i < t) (R:Nat) (a:Nat→Nat→Int) (v:Value) (hv:MSl w v (rowsL t R a)):
  Calls Tryz.prog 114 #[.pointer (some ⟨E,0,none⟩),v] w fun r w'=> r= .returned (.int .i64 (misI p m ml t e a R))∧Ex w w':=by
 obtain ⟨vals,hs,hr⟩:=hv;rw [rowsL_len] at hs;have ec:Ex w (w.alloc (.cells #[.pointer (some ⟨E,0,none⟩)] 151)):=(Ex.refl _).alloc _;have c0:(w.alloc (.cells #[.pointer (some ⟨E,0,none⟩)] 151)).cell? ⟨w.heap.size,0,none⟩=some (.pointer (some ⟨E,0,none⟩)):=by simp
 have HIF:=hid_ (IndexFunc_mis (w.alloc (.cells #[.pointer (some ⟨E,0,none⟩)] 151)) (.pointer (some ⟨w.heap.size,0,none⟩)) v R vals (hs.ex ec) (fun i=> decide (0≤lzI t (e.red p m ml (a i)))) (fun w1 i u h1 hu=> by
  have hi:i < R:=by
   have h2:=(List.getElem?_eq_some_iff.1 hu).1;have h3:=hs.1;omega
  have hx:=ec.trans h1;exact missing1_any w1 (hg.ex hx) w.heap.size E t ht e rv pv (hE.ex hx) hpl (a i) u ((hr i _ u (rowsL_get hi) hu).ex hx) (h1.cell c0)))
 obtain ⟨-,va,vc,rfl,-,-,-⟩:=hs;have HXC:=hid_ ec;clear hr hg hE hpl c0 ec;go_enter Tryz.func114,Tryz.ntmps114
 go_wp2_with fail
 refine HIF.out.mono ?_;rintro e' w1 ⟨rfl,hx1⟩;have HX:=hid_ hx1;clear hx1;go_wp2_with fail
 go_ret;exact ⟨rfl,HXC.out.trans HX.out⟩
end
theorem unit_any (w:World) (i n:Nat) (hi:i < n) (hn:n≤1000):
  Calls Tryz.prog 144 #[.int .i64 i,.int .i64 n] w fun r w'=> ∃g,r= .returned (.slice (some ⟨g,0,none⟩) n n)∧Own w' w.heap.size 3 g n (iv (upd (fun _=> 0) i 1))∧Ex w w':=by
 obtain ⟨B,hB⟩:∃B,w.heap.size=B:=⟨_,rfl⟩;have HBW:=hid_ hB;go_enter Tryz.func144,Tryz.ntmps144
 go_wp2_with (at_make;refine wpList_make_arr _ rfl _ _ 22 rfl 3 (.int .i64 0) 8 Tryz.underlying22 infoInt rfl _ n rfl rfl rfl (by omega) (by unfold maxLen;omega) ?_)
 intro w3 hown hx3
 try simp only [hB] at hown ⊢
 have co:=hown.cell hi;have cf:=hown.frz i;have i1:(0:Int)≤(i:Int):=by omega
 have i2:(i:Int) < (n:Int):=by omega
 have HO:=hid_ (show Own (w3.setCell ⟨B,i,none⟩ (.int .i64 1)) B 3 B n (iv (upd (fun _=> (0:Int)) i 1)) from by rw [←iv_upd];exact hown.set i _);have HX:=hid_ (show Ex w (w3.setCell ⟨B,i,none⟩ (.int .i64 1)) from hown.exSet (by omega) hx3 i _);clear hown hx3 hB;go_wp2_with fail
 go_ret;exact ⟨B,rfl,by rw [HBW.out];exact HO.out,HX.out⟩
structure PrAt (w:World) (A b n:Nat) (v1 v2:Value):Prop where
 c0:w.cell? ⟨A,0,none⟩=some (.pointer (some ⟨b,0,none⟩))
 c4:w.cell? ⟨A,4,none⟩=some (.int .i64 n)
 c5:w.cell? ⟨A,5,none⟩=some v1
 c10:w.cell? ⟨A,10,none⟩=some v2
theorem PrAt.ex {w w':World} {A b n:Nat} {v1 v2:Value} (h:PrAt w A b n v1 v2) (hx:Ex w w'):PrAt w' A b n v1 v2:=⟨hx.cell h.c0,hx.cell h.c4,hx.cell h.c5,hx.cell h.c10⟩
theorem rowsL_succ (N k:Nat) (a:Nat→Nat→Int):rowsL N (k + 1) a=rowsL N k a ++ [il N (a k)]:=by unfold rowsL;rw [List.range_succ,List.map_append];rfl
section
variable {b p m x0:Nat} {ml:List Int}
theorem sides_any (w:World) (hg:GFat w b p m ml x0) (A n:Nat) (hn:n≤64) (v1 v2:Value) (hP:PrAt w A b n v1 v2) (l1 l2:List (List Int)) (h1:MSl w v1 l1) (h2:MSl w v2 l2) (hr1:∀r∈l1,r.length=n) (hr2:∀r∈l2,r.length=n) (hl1:l1.length≤256) (hl2:l2.length≤256)
  (tl sl:List Int) (tv sv:Value) (ht:ISl w tv tl) (hs:ISl w sv sl) (hsl:sl.length=tl.length) (htn:tl.length≤n) (hrg:rngB tl n=true):
  Calls Tryz.prog 112 #[.pointer (some ⟨A,0,none⟩),.agg #[tv,sv]] w fun r w'=> ∃u1 u2,r= .returned (.tuple #[u1,u2])∧MSl w' u1 (rowsL tl.length l1.length fun i=> mpF p m ml sl (rowsF l1 i))∧MSl w' u2 (rowsL tl.length l2.length fun i=> seF tl (rowsF l2 i))∧Ex w w':=by
 obtain ⟨b0,b1,eb,hsz⟩:=boxP_facts w tv sv;obtain ⟨N,hN⟩:∃N,tl.length=N:=⟨_,rfl⟩;have HGR1:=hid_ (fun i (hi:i < l1.length)=> show l1[i]?=some (l1.getD i [])∧(l1.getD i []).length=n from by
  have h:l1[i]?=some (l1.getD i []):=by rw [List.getD_eq_getElem?_getD,List.getElem?_eq_getElem hi];rfl
  exact ⟨h,hr1 _ (List.mem_of_getElem? h)⟩)
 have HGR2:=hid_ (fun i (hi:i < l2.length)=> show l2[i]?=some (l2.getD i [])∧(l2.getD i []).length=n from by
  have h:l2[i]?=some (l2.getD i []):=by rw [List.getD_eq_getElem?_getD,List.getElem?_eq_getElem hi];rfl
  exact ⟨h,hr2 _ (List.mem_of_getElem? h)⟩)
 have HMP:=hid_ (fun (w1:World) (hw:Ex w w1) (x:List Int) (xv:Value) (hx:ISl w1 xv x) (hl:x.length=n)=> mapped_any w1 (hg.ex hw) A (hw.cell hP.c0) N (by omega) tl sl x tv sv xv (ht.ex hw) (hs.ex hw) hx hN (by omega) (by omega));have HSE:=hid_ (fun (w1:World) (hw:Ex w w1) (y:List Int) (yv:Value) (hy:ISl w1 yv y) (hl:y.length=n)=> seenAt_any w1 A N (by omega) tl y tv sv yv (ht.ex hw) hy hN (by rw [hl];exact hrg));obtain ⟨ra,rc,rfl,-,r2,r3⟩:=h1.open;obtain ⟨sa,sc,rfl,-,s2,s3⟩:=h2.open;unfold maxLen at r2 s2;have R3:=hid_ r3;have S3:=hid_ s3;have p5:=eb.cell hP.c5;have p10:=eb.cell hP.c10;have HEB:=hid_ eb;obtain ⟨F1,hF1⟩:∃F,(fun i=> mpF p m ml sl (rowsF l1 i))=F:=⟨_,rfl⟩;obtain ⟨F2,hF2⟩:∃F,(fun i=> seF tl (rowsF l2 i))=F:=⟨_,rfl⟩;have HF1:=hid_ (fun i=> congrFun hF1 i);have HF2:=hid_ (fun i=> congrFun hF2 i);rw [hF1,hF2,hN];obtain ⟨R1,hR1⟩:∃R,l1.length=R:=⟨_,rfl⟩;obtain ⟨R2,hR2⟩:∃R,l2.length=R:=⟨_,rfl⟩;rw [hR1] at R3 HGR1 hl1 p5 ⊢;rw [hR2] at S3 HGR2 hl2 p10 ⊢;clear hg hP h1 h2 hr1 hr2 ht hs r3 s3 hF1 hF2 hrg eb hR1 hR2 hN hsl htn;go_enter Tryz.func112,Tryz.ntmps112
 go_wp2_with fail
 obtain ⟨B,hB⟩:∃B,w.heap.size=B:=⟨_,rfl⟩;rw [hB] at b0 b1
 try simp only [hB]
 clear hB hsz;generalize w.alloc (.cells #[tv,sv] 49)=w1 at *;have B0:=hid_ b0;have B1:=hid_ b1;have P10:=hid_ p10;clear p5 p10 b0 b1
 go_loopw [4,16] (fun cv k' wr=> ∃(k:Nat) (vals:List Value),k≤R1∧k'= .int .i64 k∧Hid (MRows wr w1.heap.size cv (rowsL N k F1) vals)∧Hid (Ex w1 wr)) (fun _ k' _=> R1 - (intOf k').toNat)
 case atStart=> exact ⟨0, [],by omega,rfl,hid_ (MRows.nil _ _),hid_ (Ex.refl _)⟩
 case round=>
  obtain ⟨k,vals,hk,rfl,hm,hx⟩:=hrel;obtain ⟨ca,cc,hcv⟩:=own_shape hm.out.cvo;subst hcv;by_cases hkR:k < R1
  ·obtain ⟨rb,ro,rfl,hrc⟩:=R3.out (by omega);obtain ⟨hg1,hg2⟩:=HGR1.out k hkR;obtain ⟨uv,huc,hui⟩:=hrc k _ hg1;have hxx:=HEB.out.trans hx.out;have cu:=hxx.cell huc;have b0:=hx.out.cell B0.out;have b1:=hx.out.cell B1.out;have i1:(0:Int)≤(k:Int):=by omega
   have i2:(k:Int) < (R1:Int):=by omega
   have HC:=hid_ (HMP.out wr hxx _ uv (hui.ex hxx) hg2);rw [show (mpF p m ml sl fun j=> (l1.getD k []).getD j 0)=F1 k from HF1.out k] at HC;have HM:=hid_ hm.out;have HX:=hid_ hx.out;have HLK:=hid_ (rowsL_len N k F1);clear hrc hg1 hg2 huc hui hxx hm hx;go_wp2_with (first
        | (go_at_call 116
           refine HC.out.mono ?_;rintro e w5 ⟨g5,rfl,ho5,hx5⟩;have HO5:=hid_ ho5;have HX5:=hid_ hx5;clear ho5 hx5;have HM5:=hid_ (HM.out.ex HX5.out);have HXX:=hid_ (HX.out.trans HX5.out);have HL:=hid_ (show w5.ownsRow w1.heap.size 3 1 (.slice (some ⟨g5,0,none⟩) N N) (il N (F1 k)).length (ints (il N (F1 k))) from by
             rw [il_len,ints_il];exact ownsRow_mono HO5.out (by have:=HX.out.size;omega))
           have HAL:=hid_ (show Aprt (.slice (some ⟨g5,0,none⟩) N N) (.slice ca (rowsL N k F1).length cc) from by
             right;show some g5≠_
             intro e;have:=(HM.out.cvo.lt g5 e.symm).2;have:=HO5.out.lt.1;omega)
           clear HM HO5)
        | (at_builtin;refine wpList_append1 _ rfl _ _ 45 rfl w1.heap.size 22 (.slice none 0 0) 1 24 Tryz.underlying45 infoIntsL rfl (by decide) _ (rowsL N k F1).length _ rfl HM5.out.cvo [.slice (some ⟨g5,0,none⟩) N N] 22 _ rfl (by simp) rfl (by simp [Value.oneCell']) (by have:=HLK.out;unfold maxLen;omega) (by have:=HLK.out;omega) HXX.out.size ?_))
   intro v2 w6 happ;have HO:=hid_ (HM5.out.app HL.out HAL.out happ);have HE:=hid_ (happ.ex HXX.out (Nat.le_refl _));obtain ⟨va,vc,hv2⟩:=own_shape happ.own;subst hv2;rw [←rowsL_succ] at HO;clear happ HL HAL HM5;go_wp2_with fail
   go_roundw
   case rel=> first | exact ⟨k + 1,_,by omega,by go_num,HO,HE⟩ | ((repeat apply Exists.intro);exact ⟨⟨k + 1,_,by omega,by go_num,HO,HE⟩,rfl⟩)
   case measure=> simp [intOf];omega
  ·obtain rfl:k=R1:=by omega
   have HM:=hid_ hm.out;have HX:=hid_ hx.out;have p10:=hx.out.cell P10.out;have HM8:=hid_ hm.out.msl;obtain ⟨w8,hw8⟩:∃w8,w8=wr:=⟨_,rfl⟩;rw [←hw8] at HM HX HM8;have H8:=hid_ hw8;clear hm hx;go_wp2_with fail
   go_loopw [5,34] (fun cv k' wr=> ∃(k:Nat) (vals:List Value),k≤R2∧k'= .int .i64 k∧Hid (MRows wr w8.heap.size cv (rowsL N k F2) vals)∧Hid (Ex w8 wr)) (fun _ k' _=> R2 - (intOf k').toNat)
   case atStart=> exact ⟨0, [],by omega,rfl,hid_ (MRows.nil _ _),hid_ (by rw [H8.out];exact Ex.refl _)⟩
   case round=>
    clear p10 hw8;obtain ⟨j,vals2,hj,rfl,hm,hx⟩:=hrel;obtain ⟨da,dc,hdv⟩:=own_shape hm.out.cvo;subst hdv;by_cases hjR:j < R2
    ·obtain ⟨rb,ro,rfl,hrc⟩:=S3.out (by omega);obtain ⟨hg1,hg2⟩:=HGR2.out j hjR;obtain ⟨uv,huc,hui⟩:=hrc j _ hg1;have hxx:=(HEB.out.trans HX.out).trans hx.out;have cu:=hxx.cell huc;have b0:=(HX.out.trans hx.out).cell B0.out;have b1:=(HX.out.trans hx.out).cell B1.out;have i1:(0:Int)≤(j:Int):=by omega
     have i2:(j:Int) < (R2:Int):=by omega
     have HC:=hid_ (HSE.out wr hxx _ uv (hui.ex hxx) hg2);rw [show (seF tl fun j_1=> (l2.getD j []).getD j_1 0)=F2 j from HF2.out j] at HC;have HMj:=hid_ hm.out;have HXj:=hid_ hx.out;have HLK:=hid_ (rowsL_len N j F2);clear hrc hg1 hg2 huc hui hxx hm hx;go_wp2_with (first
            | (go_at_call 115
               refine HC.out.mono ?_;rintro e w5 ⟨g5,rfl,ho5,hx5⟩;have HO5:=hid_ ho5;have HX5:=hid_ hx5;clear ho5 hx5;have HM5:=hid_ (HMj.out.ex HX5.out);have HXX:=hid_ (HXj.out.trans HX5.out);have HL:=hid_ (show w5.ownsRow w8.heap.size 3 1 (.slice (some ⟨g5,0,none⟩) N N) (il N (F2 j)).length (ints (il N (F2 j))) from by
                 rw [il_len,ints_il];exact ownsRow_mono HO5.out (by have:=HXj.out.size;omega))
               have HAL:=hid_ (show Aprt (.slice (some ⟨g5,0,none⟩) N N) (.slice da (rowsL N j F2).length dc) from by
                 right;show some g5≠_
                 intro e;have:=(HMj.out.cvo.lt g5 e.symm).2;have:=HO5.out.lt.1;omega)
               clear HMj HO5)
            | (at_builtin;refine wpList_append1 _ rfl _ _ 45 rfl w8.heap.size 22 (.slice none 0 0) 1 24 Tryz.underlying45 infoIntsL rfl (by decide) _ (rowsL N j F2).length _ rfl HM5.out.cvo [.slice (some ⟨g5,0,none⟩) N N] 22 _ rfl (by simp) rfl (by simp [Value.oneCell']) (by have:=HLK.out;unfold maxLen;omega) (by have:=HLK.out;omega) HXX.out.size ?_))
     intro v2 w6 happ;have HO:=hid_ (HM5.out.app HL.out HAL.out happ);have HE:=hid_ (happ.ex HXX.out (Nat.le_refl _));obtain ⟨va,vc,hv2⟩:=own_shape happ.own;subst hv2;rw [←rowsL_succ] at HO;clear happ HL HAL HM5;go_wp2_with fail
     go_roundw
     case rel=> first | exact ⟨j + 1,_,by omega,by go_num,HO,HE⟩ | ((repeat apply Exists.intro);exact ⟨⟨j + 1,_,by omega,by go_num,HO,HE⟩,rfl⟩)
     case measure=> simp [intOf];omega
    ·obtain rfl:j=R2:=by omega
     go_wp2_with fail
     go_ret2;exact ⟨_,_,rfl,HM8.out.ex hx.out,hm.out.msl,(HEB.out.trans HX.out).trans hx.out⟩
end
end
section
open Go.RowKit
theorem own_isl_unit {w:World} {base g n:Nat} {i:Nat} (h:Own w base 3 g n (iv (upd (fun _=> 0) i 1))):ISl w (.slice (some ⟨g,0,none⟩) n n) (unitL i n):=h.isl
section
variable {b p m x0:Nat} {ml:List Int}
theorem witness_any (w:World) (hg:GFat w b p m ml x0) (hx01:1≤x0) (hx02:x0 < p ^ m) (A n:Nat) (hn:n≤64) (v1 v2:Value) (hP:PrAt w A b n v1 v2) (l1 l2:List (List Int)) (h1:MSl w v1 l1) (h2:MSl w v2 l2) (hr1:∀r∈l1,r.length=n) (hr2:∀r∈l2,r.length=n) (hl1:l1.length≤256) (hl2:l2.length≤256)
  (tl sl:List Int) (tv sv:Value) (ht:ISl w tv tl) (hs:ISl w sv sl) (hsl:sl.length=tl.length) (htn:tl.length≤n) (hrg:rngB tl n=true):
  Calls Tryz.prog 103 #[.pointer (some ⟨A,0,none⟩),.agg #[tv,sv]] w fun r w'=> ∃mv,r= .returned (.tuple #[.int .i64 (witI p m ml l1 l2 tl sl).1,mv])∧ISl w' mv (witL l1.length l2.length (witI p m ml l1 l2 tl sl))∧(∀B,mv.ownBlock=some B→w.heap.size≤B)∧Ex w w':=by
 obtain ⟨b0,b1,eb,hsz⟩:=boxP_facts w tv sv;have HSD:=hid_ (sides_any _ (hg.ex eb) A n hn v1 v2 (hP.ex eb) l1 l2 (h1.ex eb) (h2.ex eb) hr1 hr2 hl1 hl2 tl sl tv sv (ht.ex eb) (hs.ex eb) hsl htn hrg);have HA:=hid_ hP.c0;have HG:=hid_ hg;obtain ⟨W,hW⟩:∃W,witI p m ml l1 l2 tl sl=W:=⟨_,rfl⟩;have hWD:=hW;unfold witI at hWD;rw [hW];obtain ⟨N,hN⟩:∃N,tl.length=N:=⟨_,rfl⟩;rw [hN] at HSD hWD htn;obtain ⟨F1,hF1⟩:∃F,(fun i=> mpF p m ml sl (rowsF l1 i))=F:=⟨_,rfl⟩;obtain ⟨F2,hF2⟩:∃F,(fun i=> seF tl (rowsF l2 i))=F:=⟨_,rfl⟩;rw [hF1,hF2] at HSD hWD;obtain ⟨R1,hR1⟩:∃R,l1.length=R:=⟨_,rfl⟩;obtain ⟨R2,hR2⟩:∃R,l2.length=R:=⟨_,rfl⟩;rw [hR1] at HSD hWD hl1 ⊢;rw [hR2] at HSD hWD hl2 ⊢;obtain ⟨I1,hI1⟩:∃i,misI p m ml N (spn p m ml N F2 R2) F1 R1=i:=⟨_,rfl⟩;obtain ⟨I2,hI2⟩:∃i,misI p m ml N (spn p m ml N F1 R1) F2 R2=i:=⟨_,rfl⟩;have HI1L:=hid_ (show I1 < R1∧-1≤I1 from by rw [←hI1];exact fstI_lt _ _);have HI2L:=hid_ (show I2 < R2∧-1≤I2 from by rw [←hI2];exact fstI_lt _ _);simp only [hI1,hI2] at hWD;have HM1:=hid_ (fun (w1:World) (hw:Ex w w1) (E:Nat) (rv pv:Value) (hE:EchAt w1 E b N (spn p m ml N F2 R2) rv pv) (v:Value) (hv:MSl w1 v (rowsL N R1 F1))=> missing_any w1 (hg.ex hw) E N (by omega) _ rv pv hE (spn_lt N F2 R2) R1 F1 v hv);have HM2:=hid_ (fun (w1:World) (hw:Ex w w1) (E:Nat) (rv pv:Value) (hE:EchAt w1 E b N (spn p m ml N F1 R1) rv pv) (v:Value) (hv:MSl w1 v (rowsL N R2 F2))=> missing_any w1 (hg.ex hw) E N (by omega) _ rv pv hE (spn_lt N F1 R1) R2 F2 v hv);rw [hI1] at HM1;rw [hI2] at HM2;have HWD:=hid_ hWD;have HEB:=hid_ eb;clear hg hP h1 h2 hr1 hr2 ht hs hF1 hF2 hrg hR1 hR2 hN hsl hW hWD hI1 hI2 eb;go_enter Tryz.func103,Tryz.ntmps103
 go_wp2_with fail
 refine HSD.out.mono ?_;rintro e w1 ⟨u1,u2,rfl,hu1,hu2,hx1⟩;have HX1:=hid_ (HEB.out.trans hx1);have HU1:=hid_ hu1;have HU2:=hid_ hu2;obtain ⟨ua,uc,rfl,-,ul,-⟩:=hu1.open;obtain ⟨va,vc,rfl,-,vl,-⟩:=hu2.open;rw [rowsL_len] at HU1 HU2 ⊢;rw [rowsL_len];have HSP1:=hid_ (span_any w1 (HG.out.ex HX1.out) hx01 hx02 A (HX1.out.cell HA.out) N R2 (by omega) (by omega) F2 _ HU2.out);clear hu1 hu2 hx1 HSD;go_wp2_with fail
 refine HSP1.out.mono ?_;rintro e w2 ⟨E1,rv1,pv1,rfl,he1,hx2⟩;have HX2:=hid_ (HX1.out.trans hx2);have HU1:=hid_ (HU1.out.ex hx2);have HU2:=hid_ (HU2.out.ex hx2);have HMI:=hid_ (HM1.out w2 HX2.out E1 rv1 pv1 he1 _ HU1.out);clear he1 hx2 HSP1 HM1;go_wp2_with fail
 refine HMI.out.mono ?_;rintro e w3 ⟨rfl,hx3⟩;have HX3:=hid_ (HX2.out.trans hx3);have HU1:=hid_ (HU1.out.ex hx3);have HU2:=hid_ (HU2.out.ex hx3);clear hx3 HMI;by_cases hi1:0≤I1
 ·have hwd:=HWD.out;rw [if_pos hi1] at hwd;subst hwd;obtain ⟨i,rfl⟩:=Int.eq_ofNat_of_zero_le hi1;have hb0:decide ((0:Int)≤(i:Int))=true:=by simp
  have hiR:i < R1:=by have:=HI1L.out.1;omega
  have HUN:=hid_ (unit_any w3 i R1 hiR (by omega));clear hi1 HWD;go_wp2_with fail
  refine HUN.out.mono ?_;rintro e w4 ⟨g,rfl,ho4,hx4⟩;have HO4:=hid_ ho4;have HX4:=hid_ (HX3.out.trans hx4);have HSZ:=hid_ (show w.heap.size≤g from Nat.le_trans HX3.out.size ho4.lt.1);clear ho4 hx4;go_wp2_with fail
  go_ret2;refine ⟨_,rfl,?_,fun B hB=> ?_,HX4.out⟩
  ·unfold witL;rw [if_pos rfl];exact own_isl_unit HO4.out
  ·injection hB with hB;rw [←hB];exact HSZ.out
 ·have hwd:=HWD.out;rw [if_neg hi1] at hwd;have hb0:decide ((0:Int)≤I1)=false:=by simpa using hi1
  have HWD2:=hid_ hwd;have HSP2:=hid_ (span_any w3 (HG.out.ex HX3.out) hx01 hx02 A (HX3.out.cell HA.out) N R1 (by omega) (by omega) F1 _ HU1.out);clear hi1 HWD hwd;go_wp2_with fail
  refine HSP2.out.mono ?_;rintro e w4 ⟨E2,rv2,pv2,rfl,he2,hx4⟩;have HX4:=hid_ (HX3.out.trans hx4);have HU2:=hid_ (HU2.out.ex hx4);have HMI:=hid_ (HM2.out w4 HX4.out E2 rv2 pv2 he2 _ HU2.out);clear he2 hx4 HSP2 HM2;go_wp2_with fail
  refine HMI.out.mono ?_;rintro e w5 ⟨rfl,hx5⟩;have HX5:=hid_ (HX4.out.trans hx5);clear hx5 HMI;by_cases hi2:0≤I2
  ·have hwd:=HWD2.out;rw [if_pos hi2] at hwd;subst hwd;obtain ⟨i,rfl⟩:=Int.eq_ofNat_of_zero_le hi2;have hb1:decide ((0:Int)≤(i:Int))=true:=by simp
   have hiR:i < R2:=by have:=HI2L.out.1;omega
   have HUN:=hid_ (unit_any w5 i R2 hiR (by omega));clear hi2 HWD2;go_wp2_with fail
   refine HUN.out.mono ?_;rintro e w6 ⟨g,rfl,ho6,hx6⟩;have HO6:=hid_ ho6;have HX6:=hid_ (HX5.out.trans hx6);have HSZ:=hid_ (show w.heap.size≤g from Nat.le_trans HX5.out.size ho6.lt.1);clear ho6 hx6;go_wp2_with fail
   go_ret2;refine ⟨_,rfl,?_,fun B hB=> ?_,HX6.out⟩
   ·unfold witL;rw [if_neg (by show ¬((1:Int)=0);decide),if_pos rfl];exact own_isl_unit HO6.out
   ·injection hB with hB;rw [←hB];exact HSZ.out
  ·have hwd:=HWD2.out;rw [if_neg hi2] at hwd;subst hwd;have hb1:decide ((0:Int)≤I2)=false:=by simpa using hi2
   clear hi2 HWD2;go_wp2_with fail
   go_ret2;exact ⟨_,rfl,isl_nil _,fun B hB=> by simp [Value.ownBlock] at hB,HX5.out⟩
end
end
section
open Go.RowKit
structure Keeps (DM:World→Nat→Prop) (w w':World):Prop where
 size:w.heap.size≤w'.heap.size
 blk:∀B,B < w.heap.size→¬DM w B→w'.heap[B]?=w.heap[B]?∧¬DM w' B
theorem Keeps.refl (DM:World→Nat→Prop) (w:World):Keeps DM w w:=⟨Nat.le_refl _,fun B _ h=> ⟨rfl,h⟩⟩
theorem Keeps.trans {DM:World→Nat→Prop} {a b c:World} (h:Keeps DM a b) (k:Keeps DM b c):Keeps DM a c:=
 ⟨Nat.le_trans h.size k.size,fun B hB hn=> by
  have h1:=h.blk B hB hn;have h2:=k.blk B (Nat.lt_of_lt_of_le hB h.size) h1.2;exact ⟨h2.1.trans h1.1,h2.2⟩⟩
theorem cell_of_heap {w w':World} {B o:Nat} {v:Value} (h:w'.heap[B]?=w.heap[B]?) (hc:w.cell? ⟨B,o,none⟩=some v):w'.cell? ⟨B,o,none⟩=some v:=by
 rw [←hc];unfold World.cell?;rw [h]
theorem Keeps.cell {DM:World→Nat→Prop} {w w':World} (h:Keeps DM w w') {B o:Nat} {v:Value} (hn:¬DM w B) (hc:w.cell? ⟨B,o,none⟩=some v):w'.cell? ⟨B,o,none⟩=some v:=
 cell_of_heap (h.blk B (World.block_lt_of_cell? _ _ hc) hn).1 hc
def PrS (DM:World→Nat→Prop) (w:World) (v:Value) (l:List Int):Prop:=ISl w v l∧(l≠ []→∀B,v.ownBlock=some B→¬DM w B)
theorem PrS.keep {DM:World→Nat→Prop} {w w':World} {v:Value} {l:List Int} (h:PrS DM w v l) (k:Keeps DM w w'):PrS DM w' v l:=by
 obtain ⟨h1,h2⟩:=h
 cases l with
 | nil=>
  obtain ⟨g1,a,cap,g2,g3,g4,g5⟩:=h1;exact ⟨⟨g1,a,cap,g2,g3,g4,fun hn=> absurd hn (by simp)⟩,fun hn=> absurd rfl hn⟩
 | cons x l=>
  obtain ⟨g1,a,cap,g2,g3,g4,g5⟩:=h1;obtain ⟨b,o,rfl,g7⟩:=g5 (by simp);have hb:¬DM w b:=h2 (by simp) b (by rw [g2];rfl);have hlt:b < w.heap.size:=World.block_lt_of_cell? _ _ (g7 0 (.int .i64 x) (by simp [ints]));have hk:=k.blk b hlt hb;refine ⟨⟨g1,_,cap,g2,g3,g4,fun _=> ⟨b,o,rfl,fun j u hu=> cell_of_heap hk.1 (g7 j u hu)⟩⟩,fun _ B hB=> ?_⟩;rw [g2] at hB;injection hB with hB;rw [←hB];exact hk.2
theorem PrS.fresh {DM:World→Nat→Prop} {w:World} {v:Value} {l:List Int} (h:ISl w v l) (hB:∀B,v.ownBlock=some B→¬DM w B):PrS DM w v l:=⟨h,fun _=> hB⟩
structure Stt {σ:Type} (St:σ→World→Prop) (DM:World→Nat→Prop):Prop where
 ex:∀s w w',St s w→Ex w w'→St s w'
 lt:∀s w B,St s w→DM w B→B < w.heap.size
 dx:∀s w w' B,St s w→Ex w w'→DM w' B→DM w B
section
variable {σ:Type} {St:σ→World→Prop} {DM:World→Nat→Prop} {s:σ} {w w':World}
theorem Stt.keeps (H:Stt St DM) (hs:St s w) (hx:Ex w w'):Keeps DM w w':=
 ⟨hx.size,fun B hB hn=> ⟨hx.block B hB,fun h=> hn (H.dx s w w' B hs hx h)⟩⟩
theorem Stt.new (H:Stt St DM) (hs:St s w) (hx:Ex w w') {B:Nat} (hB:w.heap.size≤B):¬DM w' B:=fun h=> by
 have:=H.lt s w B hs (H.dx s w w' B hs hx h);omega
end
section
variable {σ:Type} {step:σ→List Int→List Int→σ × Int} {tl sl:List Int} {j q:Nat} {s:σ}
theorem rnA_stop {c:Nat} (h:(rnA step tl sl j c s).2≠0):∀k,rnA step tl sl j (c + k) s=rnA step tl sl j c s
 | 0=> rfl
 | k + 1=> by
  show (if (rnA step tl sl j (c + k) s).2≠0 then rnA step tl sl j (c + k) s else _)=_
  rw [rnA_stop h k,if_pos h]
theorem rnJ_stop {j:Nat} (h:(rnJ step q tl sl j s).2≠0):∀k,rnJ step q tl sl (j + k) s=rnJ step q tl sl j s
 | 0=> rfl
 | k + 1=> by
  show (if (rnJ step q tl sl (j + k) s).2≠0 then rnJ step q tl sl (j + k) s else _)=_
  rw [rnJ_stop h k,if_pos h]
theorem rnA_at {c:Nat} (h:(rnA step tl sl j c s).2=0):rnA step tl sl j (c + 1) s=step (rnA step tl sl j c s).1 (tl ++ [(j:Int)]) (sl ++ [((c + 1:Nat):Int)]):=by
 show (if (rnA step tl sl j c s).2≠0 then _ else _)=_
 rw [if_neg (by simp [h])]
theorem rnJ_in {j:Nat} (h:(rnJ step q tl sl j s).2=0) (hc:tl.contains (j:Int)=true):rnJ step q tl sl (j + 1) s=rnJ step q tl sl j s:=by
 show (if (rnJ step q tl sl j s).2≠0 then _ else if _ then _ else _)=_
 rw [if_neg (by simp [h]),if_pos hc]
theorem rnJ_out {j:Nat} (h:(rnJ step q tl sl j s).2=0) (hc:tl.contains (j:Int)=false):rnJ step q tl sl (j + 1) s=rnA step tl sl j (q - 1) (rnJ step q tl sl j s).1:=by
 show (if (rnJ step q tl sl j s).2≠0 then _ else if _ then _ else _)=_
 rw [if_neg (by simp [h]),if_neg (by rw [hc];decide)]
theorem rnJ_hit {j n c:Nat} (h:(rnJ step q tl sl j s).2=0) (hc:tl.contains (j:Int)=false) (hj:j < n) (hcq:c≤q - 1) (he:(rnA step tl sl j c (rnJ step q tl sl j s).1).2≠0):
  rnJ step q tl sl n s=rnA step tl sl j c (rnJ step q tl sl j s).1:=by
 have h1:=rnJ_out h hc;have h2:=rnA_stop he (q - 1 - c);rw [show c + (q - 1 - c)=q - 1 from by omega] at h2;rw [h2] at h1;have h3:=rnJ_stop (step:=step) (q:=q) (tl:=tl) (sl:=sl) (s:=s) (j:=j + 1) (by rw [h1];exact he) (n - (j + 1));rw [show j + 1 + (n - (j + 1))=n from by omega,h1] at h3;exact h3
end
theorem CloneO_any (w:World) (l:List Int) (v:Value) (hl:ISl w v l) (hn2:l.length≤1000):
  Calls Tryz.prog 66 #[v] w fun r w'=> ∃v',r= .returned v'∧w'.ownsRow w.heap.size 3 1 v' l.length (ints l)∧Ex w w':=by
 have HL:=hid_ hl;obtain ⟨a,cap,rfl,s1,s2,s3⟩:=hl.open;have hmi:∀u∈ints l,u.oneCell'=true:=by
  intro u hu;obtain ⟨z,_,rfl⟩:=List.mem_map.1 hu;rfl
 have HON:=hid_ hmi;clear hl hmi
 cases a with
 | none=>
  have h0:l= []:=by
   cases l with
   | nil=> rfl
   | cons x t=> obtain ⟨_,_,h,_⟩:=s3 (by simp);cases h
  subst h0;have hnil:=fun w'=> run_eql_slice_nil (P:=Tryz.prog) w' 22 3 none 0 cap Tryz.underlying22;simp only [Option.isNone] at hnil;clear s1 s2 s3;go_enter Tryz.func66,Tryz.ntmps66
  go_wp2_with fail
  go_ret;exact ⟨_,rfl,World.ownsRow_nil _ _ _ _,Ex.refl _⟩
 | some ad=>
  have hnil:=fun w'=> run_eql_slice_nil (P:=Tryz.prog) w' 22 3 (some ad) l.length cap Tryz.underlying22;simp only [Option.isNone] at hnil;clear s3;go_enter Tryz.func66,Tryz.ntmps66
  go_wp2_with (at_builtin;refine wpList_append_sl _ rfl _ _ 22 rfl w.heap.size 3 (.int .i64 0) 1 8 Tryz.underlying22 infoInt rfl (by decide) _ 0 [] rfl (own_lit0 w 3) (.slice (some ad) l.length cap) l.length (ints l) rfl (HL.out.ex ((Ex.refl w).alloc _)) HON.out (by unfold maxLen;omega) (by omega) (by simp) ?_)
  intro v1 w1 hown1 hg1 ha1;have hx1:Ex w w1:=Ex.grown ((Ex.refl w).alloc _) (own_lit0 w 3) (Nat.le_refl _) hg1;have HI:=hid_ hown1;have HX:=hid_ hx1;clear hown1 hg1 ha1 hx1 hnil;go_wp2_with fail
  go_ret;exact ⟨_,rfl,HI.out,HX.out⟩
end
end Go.Proofs.YtgdmlmhpineibaaGreat
