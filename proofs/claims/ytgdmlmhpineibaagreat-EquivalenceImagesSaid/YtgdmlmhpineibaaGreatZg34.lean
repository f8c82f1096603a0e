/- Walks of the echelon's missing, the pair's sides, unit, the pair's witness. -/
import Derived.Test.YtgdmlmhpineibaaGreatZg24
import Derived.Test.YtgdmlmhpineibaaGreatZg33
namespace Go.Proofs.YtgdmlmhpineibaaGreat
set_option linter.unusedVariables false
set_option linter.unusedSimpArgs false
set_option maxRecDepth 100000
set_option maxHeartbeats 4000000
section
open Go.RowKit
section
variable {b p m x0:Nat} {ml:List Int}
theorem missing1_any (w:World) (hg:GFat w b p m ml x0) (B E t:Nat) (ht:t≤1000) (e:EcS) (rv pv:Value) (hE:EchAt w E b t e rv pv) (hpl:∀i,i < e.n→e.pl i < t) (f:Nat→Int) (uv:Value) (hu:ISl w uv (il t f)) (c0:w.cell? ⟨B,0,none⟩=some (.pointer (some ⟨E,0,none⟩))):
  Calls Tryz.prog 154 #[uv,.pointer (some ⟨B,0,none⟩)] w fun r w'=> r= .returned (.bool (decide (0≤lzI t (e.red p m ml f))))∧Ex w w':=by
 have HR:=hid_ (reduce_any w hg E t ht e rv pv hE hpl f uv hu);obtain ⟨z,hz⟩:∃z,lzI t (e.red p m ml f)=z:=⟨_,rfl⟩;rw [hz] at HR ⊢;clear hg hE hu hz hpl;go_enter Tryz.func154,Tryz.ntmps154
 go_wp2_with fail
 refine HR.out.mono ?_;rintro e' w1 ⟨v1,rfl,-,hx1⟩;have HX:=hid_ hx1;clear hx1;go_wp2_with fail
 go_ret;exact ⟨rfl,HX.out⟩
theorem missing_any (w:World) (hg:GFat w b p m ml x0) (E t:Nat) (ht:t≤1000) (e:EcS) (rv pv:Value) (hE:EchAt w E b t e rv pv) (hpl:∀i,i < e.n→e.pl i < t) (R:Nat) (a:Nat→Nat→Int) (v:Value) (hv:MSl w v (rowsL t R a)):
  Calls Tryz.prog 114 #[.pointer (some ⟨E,0,none⟩),v] w fun r w'=> r= .returned (.int .i64 (misI p m ml t e a R))∧Ex w w':=by
 obtain ⟨vals,hs,hr⟩:=hv;rw [rowsL_len] at hs;have ec:Ex w (w.alloc (.cells #[.pointer (some ⟨E,0,none⟩)] 151)):=(Ex.refl _).alloc _;have c0:(w.alloc (.cells #[.pointer (some ⟨E,0,none⟩)] 151)).cell? ⟨w.heap.size,0,none⟩=some (.pointer (some ⟨E,0,none⟩)):=by simp
 have HIF:=hid_ (IndexFunc_mis (w.alloc (.cells #[.pointer (some ⟨E,0,none⟩)] 151)) (.pointer (some ⟨w.heap.size,0,none⟩)) v R vals (hs.ex ec) (fun i=> decide (0≤lzI t (e.red p m ml (a i)))) (fun w1 i u h1 hu=> by
  have hi:i < R:=by
   have h2:=(List.getElem?_eq_some_iff.1 hu).1;have h3:=hs.1;omega
  have hx:=ec.trans h1;exact missing1_any w1 (hg.ex hx) w.heap.size E t ht e rv pv (hE.ex hx) hpl (a i) u ((hr i _ u (rowsL_get hi) hu).ex hx) (h1.cell c0)))
 obtain ⟨-,va,vc,rfl,-,-,-⟩:=hs;have HXC:=hid_ ec;clear hr hg hE hpl c0 ec;go_enter Tryz.func114,Tryz.ntmps114
 go_wp2_with fail
 refine HIF.out.mono ?_;rintro e' w1 ⟨rfl,hx1⟩;have HX:=hid_ hx1;clear hx1;go_wp2_with fail
 go_ret;exact ⟨rfl,HXC.out.trans HX.out⟩
end
theorem unit_any (w:World) (i n:Nat) (hi:i < n) (hn:n≤1000):
  Calls Tryz.prog 144 #[.int .i64 i,.int .i64 n] w fun r w'=> ∃g,r= .returned (.slice (some ⟨g,0,none⟩) n n)∧Own w' w.heap.size 3 g n (iv (upd (fun _=> 0) i 1))∧Ex w w':=by
 obtain ⟨B,hB⟩:∃B,w.heap.size=B:=⟨_,rfl⟩;have HBW:=hid_ hB;go_enter Tryz.func144,Tryz.ntmps144
 go_wp2_with (at_make;refine wpList_make_arr _ rfl _ _ 22 rfl 3 (.int .i64 0) 8 Tryz.underlying22 infoInt rfl _ n rfl rfl rfl (by omega) (by unfold maxLen;omega) ?_)
 intro w3 hown hx3
 try simp only [hB] at hown ⊢
 have co:=hown.cell hi;have cf:=hown.frz i;have i1:(0:Int)≤(i:Int):=by omega
 have i2:(i:Int) < (n:Int):=by omega
 have HO:=hid_ (show Own (w3.setCell ⟨B,i,none⟩ (.int .i64 1)) B 3 B n (iv (upd (fun _=> (0:Int)) i 1)) from by rw [←iv_upd];exact hown.set i _);have HX:=hid_ (show Ex w (w3.setCell ⟨B,i,none⟩ (.int .i64 1)) from hown.exSet (by omega) hx3 i _);clear hown hx3 hB;go_wp2_with fail
 go_ret;exact ⟨B,rfl,by rw [HBW.out];exact HO.out,HX.out⟩
structure PrAt (w:World) (A b n:Nat) (v1 v2:Value):Prop where
 c0:w.cell? ⟨A,0,none⟩=some (.pointer (some ⟨b,0,none⟩))
 c4:w.cell? ⟨A,4,none⟩=some (.int .i64 n)
 c5:w.cell? ⟨A,5,none⟩=some v1
 c10:w.cell? ⟨A,10,none⟩=some v2
theorem PrAt.ex {w w':World} {A b n:Nat} {v1 v2:Value} (h:PrAt w A b n v1 v2) (hx:Ex w w'):PrAt w' A b n v1 v2:=⟨hx.cell h.c0,hx.cell h.c4,hx.cell h.c5,hx.cell h.c10⟩
theorem rowsL_succ (N k:Nat) (a:Nat→Nat→Int):rowsL N (k + 1) a=rowsL N k a ++ [il N (a k)]:=by unfold rowsL;rw [List.range_succ,List.map_append];rfl
section
variable {b p m x0:Nat} {ml:List Int}
theorem sides_any (w:World) (hg:GFat w b p m ml x0) (A n:Nat) (hn:n≤64) (v1 v2:Value) (hP:PrAt w A b n v1 v2) (l1 l2:List (List Int)) (h1:MSl w v1 l1) (h2:MSl w v2 l2) (hr1:∀r∈l1,r.length=n) (hr2:∀r∈l2,r.length=n) (hl1:l1.length≤256) (hl2:l2.length≤256)
  (tl sl:List Int) (tv sv:Value) (ht:ISl w tv tl) (hs:ISl w sv sl) (hsl:sl.length=tl.length) (htn:tl.length≤n) (hrg:rngB tl n=true):
  Calls Tryz.prog 112 #[.pointer (some ⟨A,0,none⟩),.agg #[tv,sv]] w fun r w'=> ∃u1 u2,r= .returned (.tuple #[u1,u2])∧MSl w' u1 (rowsL tl.length l1.length fun i=> mpF p m ml sl (rowsF l1 i))∧MSl w' u2 (rowsL tl.length l2.length fun i=> seF tl (rowsF l2 i))∧Ex w w':=by
 obtain ⟨b0,b1,eb,hsz⟩:=boxP_facts w tv sv;obtain ⟨N,hN⟩:∃N,tl.length=N:=⟨_,rfl⟩;have HGR1:=hid_ (fun i (hi:i < l1.length)=> show l1[i]?=some (l1.getD i [])∧(l1.getD i []).length=n from by
  have h:l1[i]?=some (l1.getD i []):=by rw [List.getD_eq_getElem?_getD,List.getElem?_eq_getElem hi];rfl
  exact ⟨h,hr1 _ (List.mem_of_getElem? h)⟩)
 have HGR2:=hid_ (fun i (hi:i < l2.length)=> show l2[i]?=some (l2.getD i [])∧(l2.getD i []).length=n from by
  have h:l2[i]?=some (l2.getD i []):=by rw [List.getD_eq_getElem?_getD,List.getElem?_eq_getElem hi];rfl
  exact ⟨h,hr2 _ (List.mem_of_getElem? h)⟩)
 have HMP:=hid_ (fun (w1:World) (hw:Ex w w1) (x:List Int) (xv:Value) (hx:ISl w1 xv x) (hl:x.length=n)=> mapped_any w1 (hg.ex hw) A (hw.cell hP.c0) N (by omega) tl sl x tv sv xv (ht.ex hw) (hs.ex hw) hx hN (by omega) (by omega));have HSE:=hid_ (fun (w1:World) (hw:Ex w w1) (y:List Int) (yv:Value) (hy:ISl w1 yv y) (hl:y.length=n)=> seenAt_any w1 A N (by omega) tl y tv sv yv (ht.ex hw) hy hN (by rw [hl];exact hrg));obtain ⟨ra,rc,rfl,-,r2,r3⟩:=h1.open;obtain ⟨sa,sc,rfl,-,s2,s3⟩:=h2.open;unfold maxLen at r2 s2;have R3:=hid_ r3;have S3:=hid_ s3;have p5:=eb.cell hP.c5;have p10:=eb.cell hP.c10;have HEB:=hid_ eb;obtain ⟨F1,hF1⟩:∃F,(fun i=> mpF p m ml sl (rowsF l1 i))=F:=⟨_,rfl⟩;obtain ⟨F2,hF2⟩:∃F,(fun i=> seF tl (rowsF l2 i))=F:=⟨_,rfl⟩;have HF1:=hid_ (fun i=> congrFun hF1 i);have HF2:=hid_ (fun i=> congrFun hF2 i);rw [hF1,hF2,hN];obtain ⟨R1,hR1⟩:∃R,l1.length=R:=⟨_,rfl⟩;obtain ⟨R2,hR2⟩:∃R,l2.length=R:=⟨_,rfl⟩;rw [hR1] at R3 HGR1 hl1 p5 ⊢;rw [hR2] at S3 HGR2 hl2 p10 ⊢;clear hg hP h1 h2 hr1 hr2 ht hs r3 s3 hF1 hF2 hrg eb hR1 hR2 hN hsl htn;go_enter Tryz.func112,Tryz.ntmps112
 go_wp2_with fail
 obtain ⟨B,hB⟩:∃B,w.heap.size=B:=⟨_,rfl⟩;rw [hB] at b0 b1
 try simp only [hB]
 clear hB hsz;generalize w.alloc (.cells #[tv,sv] 49)=w1 at *;have B0:=hid_ b0;have B1:=hid_ b1;have P10:=hid_ p10;clear p5 p10 b0 b1
 go_loopw [4,16] (fun cv k' wr=> ∃(k:Nat) (vals:List Value),k≤R1∧k'= .int .i64 k∧Hid (MRows wr w1.heap.size cv (rowsL N k F1) vals)∧Hid (Ex w1 wr)) (fun _ k' _=> R1 - (intOf k').toNat)
 case atStart=> exact ⟨0, [],by omega,rfl,hid_ (MRows.nil _ _),hid_ (Ex.refl _)⟩
 case round=>
  obtain ⟨k,vals,hk,rfl,hm,hx⟩:=hrel;obtain ⟨ca,cc,hcv⟩:=own_shape hm.out.cvo;subst hcv;by_cases hkR:k < R1
  ·obtain ⟨rb,ro,rfl,hrc⟩:=R3.out (by omega);obtain ⟨hg1,hg2⟩:=HGR1.out k hkR;obtain ⟨uv,huc,hui⟩:=hrc k _ hg1;have hxx:=HEB.out.trans hx.out;have cu:=hxx.cell huc;have b0:=hx.out.cell B0.out;have b1:=hx.out.cell B1.out;have i1:(0:Int)≤(k:Int):=by omega
   have i2:(k:Int) < (R1:Int):=by omega
   have HC:=hid_ (HMP.out wr hxx _ uv (hui.ex hxx) hg2);rw [show (mpF p m ml sl fun j=> (l1.getD k []).getD j 0)=F1 k from HF1.out k] at HC;have HM:=hid_ hm.out;have HX:=hid_ hx.out;have HLK:=hid_ (rowsL_len N k F1);clear hrc hg1 hg2 huc hui hxx hm hx;go_wp2_with (first
        | (go_at_call 116
           refine HC.out.mono ?_;rintro e w5 ⟨g5,rfl,ho5,hx5⟩;have HO5:=hid_ ho5;have HX5:=hid_ hx5;clear ho5 hx5;have HM5:=hid_ (HM.out.ex HX5.out);have HXX:=hid_ (HX.out.trans HX5.out);have HL:=hid_ (show w5.ownsRow w1.heap.size 3 1 (.slice (some ⟨g5,0,none⟩) N N) (il N (F1 k)).length (ints (il N (F1 k))) from by
             rw [il_len,ints_il];exact ownsRow_mono HO5.out (by have:=HX.out.size;omega))
           have HAL:=hid_ (show Aprt (.slice (some ⟨g5,0,none⟩) N N) (.slice ca (rowsL N k F1).length cc) from by
             right;show some g5≠_
             intro e;have:=(HM.out.cvo.lt g5 e.symm).2;have:=HO5.out.lt.1;omega)
           clear HM HO5)
        | (at_builtin;refine wpList_append1 _ rfl _ _ 45 rfl w1.heap.size 22 (.slice none 0 0) 1 24 Tryz.underlying45 infoIntsL rfl (by decide) _ (rowsL N k F1).length _ rfl HM5.out.cvo [.slice (some ⟨g5,0,none⟩) N N] 22 _ rfl (by simp) rfl (by simp [Value.oneCell']) (by have:=HLK.out;unfold maxLen;omega) (by have:=HLK.out;omega) HXX.out.size ?_))
   intro v2 w6 happ;have HO:=hid_ (HM5.out.app HL.out HAL.out happ);have HE:=hid_ (happ.ex HXX.out (Nat.le_refl _));obtain ⟨va,vc,hv2⟩:=own_shape happ.own;subst hv2;rw [←rowsL_succ] at HO;clear happ HL HAL HM5;go_wp2_with fail
   go_roundw
   case rel=> first | exact ⟨k + 1,_,by omega,by go_num,HO,HE⟩ | ((repeat apply Exists.intro);exact ⟨⟨k + 1,_,by omega,by go_num,HO,HE⟩,rfl⟩)
   case measure=> simp [intOf];omega
  ·obtain rfl:k=R1:=by omega
   have HM:=hid_ hm.out;have HX:=hid_ hx.out;have p10:=hx.out.cell P10.out;have HM8:=hid_ hm.out.msl;obtain ⟨w8,hw8⟩:∃w8,w8=wr:=⟨_,rfl⟩;rw [←hw8] at HM HX HM8;have H8:=hid_ hw8;clear hm hx;go_wp2_with fail
   go_loopw [5,34] (fun cv k' wr=> ∃(k:Nat) (vals:List Value),k≤R2∧k'= .int .i64 k∧Hid (MRows wr w8.heap.size cv (rowsL N k F2) vals)∧Hid (Ex w8 wr)) (fun _ k' _=> R2 - (intOf k').toNat)
   case atStart=> exact ⟨0, [],by omega,rfl,hid_ (MRows.nil _ _),hid_ (by rw [H8.out];exact Ex.refl _)⟩
   case round=>
    clear p10 hw8;obtain ⟨j,vals2,hj,rfl,hm,hx⟩:=hrel;obtain ⟨da,dc,hdv⟩:=own_shape hm.out.cvo;subst hdv;by_cases hjR:j < R2
    ·obtain ⟨rb,ro,rfl,hrc⟩:=S3.out (by omega);obtain ⟨hg1,hg2⟩:=HGR2.out j hjR;obtain ⟨uv,huc,hui⟩:=hrc j _ hg1;have hxx:=(HEB.out.trans HX.out).trans hx.out;have cu:=hxx.cell huc;have b0:=(HX.out.trans hx.out).cell B0.out;have b1:=(HX.out.trans hx.out).cell B1.out;have i1:(0:Int)≤(j:Int):=by omega
     have i2:(j:Int) < (R2:Int):=by omega
     have HC:=hid_ (HSE.out wr hxx _ uv (hui.ex hxx) hg2);rw [show (seF tl fun j_1=> (l2.getD j []).getD j_1 0)=F2 j from HF2.out j] at HC;have HMj:=hid_ hm.out;have HXj:=hid_ hx.out;have HLK:=hid_ (rowsL_len N j F2);clear hrc hg1 hg2 huc hui hxx hm hx;go_wp2_with (first
            | (go_at_call 115
               refine HC.out.mono ?_;rintro e w5 ⟨g5,rfl,ho5,hx5⟩;have HO5:=hid_ ho5;have HX5:=hid_ hx5;clear ho5 hx5;have HM5:=hid_ (HMj.out.ex HX5.out);have HXX:=hid_ (HXj.out.trans HX5.out);have HL:=hid_ (show w5.ownsRow w8.heap.size 3 1 (.slice (some ⟨g5,0,none⟩) N N) (il N (F2 j)).length (ints (il N (F2 j))) from by
                 rw [il_len,ints_il];exact ownsRow_mono HO5.out (by have:=HXj.out.size;omega))
               have HAL:=hid_ (show Aprt (.slice (some ⟨g5,0,none⟩) N N) (.slice da (rowsL N j F2).length dc) from by
                 right;show some g5≠_
                 intro e;have:=(HMj.out.cvo.lt g5 e.symm).2;have:=HO5.out.lt.1;omega)
               clear HMj HO5)
            | (at_builtin;refine wpList_append1 _ rfl _ _ 45 rfl w8.heap.size 22 (.slice none 0 0) 1 24 Tryz.underlying45 infoIntsL rfl (by decide) _ (rowsL N j F2).length _ rfl HM5.out.cvo [.slice (some ⟨g5,0,none⟩) N N] 22 _ rfl (by simp) rfl (by simp [Value.oneCell']) (by have:=HLK.out;unfold maxLen;omega) (by have:=HLK.out;omega) HXX.out.size ?_))
     intro v2 w6 happ;have HO:=hid_ (HM5.out.app HL.out HAL.out happ);have HE:=hid_ (happ.ex HXX.out (Nat.le_refl _));obtain ⟨va,vc,hv2⟩:=own_shape happ.own;subst hv2;rw [←rowsL_succ] at HO;clear happ HL HAL HM5;go_wp2_with fail
     go_roundw
     case rel=> first | exact ⟨j + 1,_,by omega,by go_num,HO,HE⟩ | ((repeat apply Exists.intro);exact ⟨⟨j + 1,_,by omega,by go_num,HO,HE⟩,rfl⟩)
     case measure=> simp [intOf];omega
    ·obtain rfl:j=R2:=by omega
     go_wp2_with fail
     go_ret2;exact ⟨_,_,rfl,HM8.out.ex hx.out,hm.out.msl,(HEB.out.trans HX.out).trans hx.out⟩
end
end
section
open Go.RowKit
theorem own_isl_unit {w:World} {base g n:Nat} {i:Nat} (h:Own w base 3 g n (iv (upd (fun _=> 0) i 1))):ISl w (.slice (some ⟨g,0,none⟩) n n) (unitL i n):=h.isl
section
variable {b p m x0:Nat} {ml:List Int}
theorem witness_any (w:World) (hg:GFat w b p m ml x0) (hx01:1≤x0) (hx02:x0 < p ^ m) (A n:Nat) (hn:n≤64) (v1 v2:Value) (hP:PrAt w A b n v1 v2) (l1 l2:List (List Int)) (h1:MSl w v1 l1) (h2:MSl w v2 l2) (hr1:∀r∈l1,r.length=n) (hr2:∀r∈l2,r.length=n) (hl1:l1.length≤256) (hl2:l2.length≤256)
  (tl sl:List Int) (tv sv:Value) (ht:ISl w tv tl) (hs:ISl w sv sl) (hsl:sl.length=tl.length) (htn:tl.length≤n) (hrg:rngB tl n=true):
  Calls Tryz.prog 103 #[.pointer (some ⟨A,0,none⟩),.agg #[tv,sv]] w fun r w'=> ∃mv,r= .returned (.tuple #[.int .i64 (witI p m ml l1 l2 tl sl).1,mv])∧ISl w' mv (witL l1.length l2.length (witI p m ml l1 l2 tl sl))∧(∀B,mv.ownBlock=some B→w.heap.size≤B)∧Ex w w':=by
 obtain ⟨b0,b1,eb,hsz⟩:=boxP_facts w tv sv;have HSD:=hid_ (sides_any _ (hg.ex eb) A n hn v1 v2 (hP.ex eb) l1 l2 (h1.ex eb) (h2.ex eb) hr1 hr2 hl1 hl2 tl sl tv sv (ht.ex eb) (hs.ex eb) hsl htn hrg);have HA:=hid_ hP.c0;have HG:=hid_ hg;obtain ⟨W,hW⟩:∃W,witI p m ml l1 l2 tl sl=W:=⟨_,rfl⟩;have hWD:=hW;unfold witI at hWD;rw [hW];obtain ⟨N,hN⟩:∃N,tl.length=N:=⟨_,rfl⟩;rw [hN] at HSD hWD htn;obtain ⟨F1,hF1⟩:∃F,(fun i=> mpF p m ml sl (rowsF l1 i))=F:=⟨_,rfl⟩;obtain ⟨F2,hF2⟩:∃F,(fun i=> seF tl (rowsF l2 i))=F:=⟨_,rfl⟩;rw [hF1,hF2] at HSD hWD;obtain ⟨R1,hR1⟩:∃R,l1.length=R:=⟨_,rfl⟩;obtain ⟨R2,hR2⟩:∃R,l2.length=R:=⟨_,rfl⟩;rw [hR1] at HSD hWD hl1 ⊢;rw [hR2] at HSD hWD hl2 ⊢;obtain ⟨I1,hI1⟩:∃i,misI p m ml N (spn p m ml N F2 R2) F1 R1=i:=⟨_,rfl⟩;obtain ⟨I2,hI2⟩:∃i,misI p m ml N (spn p m ml N F1 R1) F2 R2=i:=⟨_,rfl⟩;have HI1L:=hid_ (show I1 < R1∧-1≤I1 from by rw [←hI1];exact fstI_lt _ _);have HI2L:=hid_ (show I2 < R2∧-1≤I2 from by rw [←hI2];exact fstI_lt _ _);simp only [hI1,hI2] at hWD;have HM1:=hid_ (fun (w1:World) (hw:Ex w w1) (E:Nat) (rv pv:Value) (hE:EchAt w1 E b N (spn p m ml N F2 R2) rv pv) (v:Value) (hv:MSl w1 v (rowsL N R1 F1))=> missing_any w1 (hg.ex hw) E N (by omega) _ rv pv hE (spn_lt N F2 R2) R1 F1 v hv);have HM2:=hid_ (fun (w1:World) (hw:Ex w w1) (E:Nat) (rv pv:Value) (hE:EchAt w1 E b N (spn p m ml N F1 R1) rv pv) (v:Value) (hv:MSl w1 v (rowsL N R2 F2))=> missing_any w1 (hg.ex hw) E N (by omega) _ rv pv hE (spn_lt N F1 R1) R2 F2 v hv);rw [hI1] at HM1;rw [hI2] at HM2;have HWD:=hid_ hWD;have HEB:=hid_ eb;clear hg hP h1 h2 hr1 hr2 ht hs hF1 hF2 hrg hR1 hR2 hN hsl hW hWD hI1 hI2 eb;go_enter Tryz.func103,Tryz.ntmps103
 go_wp2_with fail
 refine HSD.out.mono ?_;rintro e w1 ⟨u1,u2,rfl,hu1,hu2,hx1⟩;have HX1:=hid_ (HEB.out.trans hx1);have HU1:=hid_ hu1;have HU2:=hid_ hu2;obtain ⟨ua,uc,rfl,-,ul,-⟩:=hu1.open;obtain ⟨va,vc,rfl,-,vl,-⟩:=hu2.open;rw [rowsL_len] at HU1 HU2 ⊢;rw [rowsL_len];have HSP1:=hid_ (span_any w1 (HG.out.ex HX1.out) hx01 hx02 A (HX1.out.cell HA.out) N R2 (by omega) (by omega) F2 _ HU2.out);clear hu1 hu2 hx1 HSD;go_wp2_with fail
 refine HSP1.out.mono ?_;rintro e w2 ⟨E1,rv1,pv1,rfl,he1,hx2⟩;have HX2:=hid_ (HX1.out.trans hx2);have HU1:=hid_ (HU1.out.ex hx2);have HU2:=hid_ (HU2.out.ex hx2);have HMI:=hid_ (HM1.out w2 HX2.out E1 rv1 pv1 he1 _ HU1.out);clear he1 hx2 HSP1 HM1;go_wp2_with fail
 refine HMI.out.mono ?_;rintro e w3 ⟨rfl,hx3⟩;have HX3:=hid_ (HX2.out.trans hx3);have HU1:=hid_ (HU1.out.ex hx3);have HU2:=hid_ (HU2.out.ex hx3);clear hx3 HMI;by_cases hi1:0≤I1
 ·have hwd:=HWD.out;rw [if_pos hi1] at hwd;subst hwd;obtain ⟨i,rfl⟩:=Int.eq_ofNat_of_zero_le hi1;have hb0:decide ((0:Int)≤(i:Int))=true:=by simp
  have hiR:i < R1:=by have:=HI1L.out.1;omega
  have HUN:=hid_ (unit_any w3 i R1 hiR (by omega));clear hi1 HWD;go_wp2_with fail
  refine HUN.out.mono ?_;rintro e w4 ⟨g,rfl,ho4,hx4⟩;have HO4:=hid_ ho4;have HX4:=hid_ (HX3.out.trans hx4);have HSZ:=hid_ (show w.heap.size≤g from Nat.le_trans HX3.out.size ho4.lt.1);clear ho4 hx4;go_wp2_with fail
  go_ret2;refine ⟨_,rfl,?_,fun B hB=> ?_,HX4.out⟩
  ·unfold witL;rw [if_pos rfl];exact own_isl_unit HO4.out
  ·injection hB with hB;rw [←hB];exact HSZ.out
 ·have hwd:=HWD.out;rw [if_neg hi1] at hwd;have hb0:decide ((0:Int)≤I1)=false:=by simpa using hi1
  have HWD2:=hid_ hwd;have HSP2:=hid_ (span_any w3 (HG.out.ex HX3.out) hx01 hx02 A (HX3.out.cell HA.out) N R1 (by omega) (by omega) F1 _ HU1.out);clear hi1 HWD hwd;go_wp2_with fail
  refine HSP2.out.mono ?_;rintro e w4 ⟨E2,rv2,pv2,rfl,he2,hx4⟩;have HX4:=hid_ (HX3.out.trans hx4);have HU2:=hid_ (HU2.out.ex hx4);have HMI:=hid_ (HM2.out w4 HX4.out E2 rv2 pv2 he2 _ HU2.out);clear he2 hx4 HSP2 HM2;go_wp2_with fail
  refine HMI.out.mono ?_;rintro e w5 ⟨rfl,hx5⟩;have HX5:=hid_ (HX4.out.trans hx5);clear hx5 HMI;by_cases hi2:0≤I2
  ·have hwd:=HWD2.out;rw [if_pos hi2] at hwd;subst hwd;obtain ⟨i,rfl⟩:=Int.eq_ofNat_of_zero_le hi2;have hb1:decide ((0:Int)≤(i:Int))=true:=by simp
   have hiR:i < R2:=by have:=HI2L.out.1;omega
   have HUN:=hid_ (unit_any w5 i R2 hiR (by omega));clear hi2 HWD2;go_wp2_with fail
   refine HUN.out.mono ?_;rintro e w6 ⟨g,rfl,ho6,hx6⟩;have HO6:=hid_ ho6;have HX6:=hid_ (HX5.out.trans hx6);have HSZ:=hid_ (show w.heap.size≤g from Nat.le_trans HX5.out.size ho6.lt.1);clear ho6 hx6;go_wp2_with fail
   go_ret2;refine ⟨_,rfl,?_,fun B hB=> ?_,HX6.out⟩
   ·unfold witL;rw [if_neg (by show ¬((1:Int)=0);decide),if_pos rfl];exact own_isl_unit HO6.out
   ·injection hB with hB;rw [←hB];exact HSZ.out
  ·have hwd:=HWD2.out;rw [if_neg hi2] at hwd;subst hwd;have hb1:decide ((0:Int)≤I2)=false:=by simpa using hi2
   clear hi2 HWD2;go_wp2_with fail
   go_ret2;exact ⟨_,rfl,isl_nil _,fun B hB=> by simp [Value.ownBlock] at hB,HX5.out⟩
end
end
section
open Go.RowKit
def samF (p m:Int) (ml:List Int) (p' m':Int) (ml':List Int):Bool:=p==p' && m==m' && ml==ml'
theorem samF_iff {p m:Int} {ml:List Int} {p' m':Int} {ml':List Int}:samF p m ml p' m' ml'=true↔p=p'∧m=m'∧ml=ml':=by
 unfold samF;simp [and_assoc]
theorem FSame_any (w:World) (p m:Int) (ml:List Int) (mv:Value) (hmv:ISl w mv ml) (p' m':Int) (ml':List Int) (mv':Value) (hmv':ISl w mv' ml'):
  Calls Tryz.prog 102 #[.agg #[.int .i64 p,.int .i64 m,mv],.agg #[.int .i64 p',.int .i64 m',mv']] w fun r w'=> r= .returned (.bool (samF p m ml p' m' ml'))∧Ex w w':=by
 obtain ⟨a0,a1,a2,ea,-⟩:=box_facts w p m mv;obtain ⟨b0,b1,b2,eb,-⟩:=box_facts (w.alloc (.cells #[.int .i64 p,.int .i64 m,mv] 24)) p' m' mv';replace a0:=eb.cell a0;replace a1:=eb.cell a1;replace a2:=eb.cell a2;have hsz:(w.alloc (.cells #[.int .i64 p,.int .i64 m,mv] 24)).heap.size=w.heap.size + 1:=by simp
 rw [hsz] at b0 b1 b2;have HE:=hid_ (ea.trans eb);obtain ⟨ma,mc,rfl,m1',m2,m3⟩:=hmv.open;obtain ⟨na,nc,rfl,-,n2,n3⟩:=hmv'.open;unfold maxLen at m2 n2;obtain ⟨R,hR⟩:∃R,samF p m ml p' m' ml'=R:=⟨_,rfl⟩;rw [hR];have M3:=hid_ m3;have N3:=hid_ n3;have HR:=hid_ hR;clear hmv hmv' hsz ea eb m3 n3 hR;go_enter Tryz.func102,Tryz.ntmps102
 by_cases h1:p=p'
 ·have b1':(p !=p')=false:=by simpa using h1
  by_cases h2:m=m'
  ·have b2':(m !=m')=false:=by simpa using h2
   by_cases h3:ml.length=ml'.length
   ·have b3:((ml.length:Int) !=(ml'.length:Int))=false:=by simp;omega
    subst h1;subst h2;have hn:∃n,ml.length=n:=⟨_,rfl⟩;have HRB:=hid_ (show R=true↔ml=ml' from by rw [←HR.out,samF_iff];simp);have H3:=hid_ h3;rw [←h3] at a0 a1 a2 b0 b1 b2 HE ⊢;clear h3 b3 hn;go_wp2_with fail
    generalize (w.alloc (.cells #[.int .i64 p,.int .i64 m,.slice ma ml.length mc] 24)).alloc (.cells #[.int .i64 p,.int .i64 m,.slice na ml.length nc] 24)=w1 at *;have A2:=hid_ a2;have B2:=hid_ b2
    go_loopw [31] (fun i' wr=> ∃(i:Nat),i≤ml.length∧i'= .int .i64 i∧(∀j,j < i→ml.getD j 0=ml'.getD j 0)∧Hid (Ex w1 wr)) (fun i' _=> ml.length - (intOf i').toNat)
    case atStart=> exact ⟨0,by omega,rfl,fun j hj=> by omega,hid_ (Ex.refl _)⟩
    case round=>
     obtain ⟨i,hi,rfl,hall,hex⟩:=hrel;have HAL:=hid_ hall;clear hall a0 a1 b0 b1;by_cases hin:i < ml.length
     ·obtain ⟨mb,mo,rfl,hmc⟩:=M3.out (by omega);obtain ⟨nb,no,rfl,hnc⟩:=N3.out (by have:=H3.out;omega);have c1:=hex.out.cell (HE.out.cell (hmc i _ (show ml[i]?=some (ml.getD i 0) from by rw [List.getD_eq_getElem?_getD,List.getElem?_eq_getElem hin];rfl)));have c2:=hex.out.cell (HE.out.cell (hnc i _ (show ml'[i]?=some (ml'.getD i 0) from by rw [List.getD_eq_getElem?_getD,List.getElem?_eq_getElem (by have:=H3.out;omega)];rfl)));have f2:=hex.out.cell A2.out;have g2:=hex.out.cell B2.out;have j1:(0:Int)≤(i:Int):=by omega
      have j2:(i:Int) < (ml.length:Int):=by omega
      have hmm:m2=m2:=rfl;obtain ⟨x,hx⟩:∃x,ml.getD i 0=x:=⟨_,rfl⟩;obtain ⟨y,hy⟩:∃y,ml'.getD i 0=y:=⟨_,rfl⟩;rw [hx] at c1;rw [hy] at c2;have HXY:=hid_ (show x=ml.getD i 0∧y=ml'.getD i 0 from ⟨hx.symm,hy.symm⟩);clear hx hy hmc hnc a2 b2 hmm;by_cases hxy:x=y
      ·have HA2:=hid_ (show ∀j,j < i + 1→ml.getD j 0=ml'.getD j 0 from fun j hj=> by
        by_cases e:j=i
        ·subst e;rw [←HXY.out.1,←HXY.out.2,hxy]
        ·exact HAL.out j (by omega))
       have bb:(y !=x)=false:=by simp [hxy]
       have hyx:y=x:=hxy.symm;subst hyx;clear hxy;go_wp2_with fail
       go_roundw
       case rel=> first | exact ⟨i + 1,by omega,by go_num,HA2.out,hex⟩ | ((repeat apply Exists.intro);exact ⟨⟨i + 1,by omega,by go_num,HA2.out,hex⟩,rfl⟩)
       case measure=> simp [intOf];omega
      ·have bb:(y !=x)=true:=by simpa using fun h=> hxy h.symm
       have hr:R=false:=Bool.eq_false_iff.2 fun h=> hxy (by rw [HXY.out.1,HXY.out.2,HRB.out.1 h]);subst hr;have hyx:¬y=x:=fun h=> hxy h.symm;clear hxy;go_wp2_with fail
       go_ret;exact ⟨rfl,HE.out.trans hex.out⟩
     ·obtain rfl:i=ml.length:=by omega
      have hr:R=true:=HRB.out.2 (List.ext_getElem? fun j=> by
       by_cases hj:j < ml.length
       ·have:=HAL.out j hj;rw [List.getElem?_eq_getElem hj,List.getElem?_eq_getElem (by have:=H3.out;omega)];rw [List.getD_eq_getElem?_getD,List.getElem?_eq_getElem hj,List.getD_eq_getElem?_getD,List.getElem?_eq_getElem (by have:=H3.out;omega)] at this;simpa using this
       ·rw [List.getElem?_eq_none (by omega),List.getElem?_eq_none (by have:=H3.out;omega)])
      subst hr;go_wp2_with fail
      go_ret;exact ⟨rfl,HE.out.trans hex.out⟩
   ·have b3:((ml.length:Int) !=(ml'.length:Int))=true:=by simp;omega
    have hr:R=false:=by
     rw [←HR.out];exact Bool.eq_false_iff.2 fun h=> h3 (by rw [(samF_iff.1 h).2.2])
    subst hr;have h3':¬((ml.length:Int)=(ml'.length:Int)):=by omega
    clear h3 h1 h2;go_wp2_with fail
    go_ret;exact ⟨rfl,HE.out⟩
  ·have b2':(m !=m')=true:=by simpa using h2
   have hr:R=false:=by
    rw [←HR.out];exact Bool.eq_false_iff.2 fun h=> h2 (samF_iff.1 h).2.1
   subst hr;clear h1 h2;go_wp2_with fail
   go_ret;exact ⟨rfl,HE.out⟩
 ·have b1':(p !=p')=true:=by simpa using h1
  have hr:R=false:=by
   rw [←HR.out];exact Bool.eq_false_iff.2 fun h=> h1 (samF_iff.1 h).1
  subst hr;clear h1;go_wp2_with fail
  go_ret;exact ⟨rfl,HE.out⟩
end
end Go.Proofs.YtgdmlmhpineibaaGreat
