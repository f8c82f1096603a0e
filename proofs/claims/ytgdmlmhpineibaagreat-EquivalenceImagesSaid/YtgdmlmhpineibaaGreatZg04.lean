/- Walks of the package field: multiply. -/
import Derived.Deep.RegionHeld3
import Derived.Laws.CopyOwn
import Derived.Deep.RegionLaw
import Derived.StillTailTactics
import Derived.Test.YtgdmlmhpineibaaGreatZg03
namespace Go.Proofs.YtgdmlmhpineibaaGreat
set_option linter.unusedVariables false
set_option linter.unusedSimpArgs false
set_option maxRecDepth 100000
set_option maxHeartbeats 4000000
section
open Go.RowKit
structure FSh (p m:Nat) (ml:List Int):Prop where
 p2:2≤p
 m1:1≤m
 m8:m≤8
 q:p ^ m≤256
 len:ml.length=if m=1 then 0 else m
 rng:∀x∈ml,0≤x∧x < p
def lw (ml:List Int):Vc:=fun j=> ml.getD j 0
theorem FSh.p256 {p m:Nat} {ml:List Int} (h:FSh p m ml):p≤256:=by
 have h1:p ^ 1≤p ^ m:=Nat.pow_le_pow_right (by have:=h.p2;omega) h.m1;have:=h.q;rw [Nat.pow_one] at h1;omega
def hst (p m:Nat) (low x y:Vc) (k:Nat):Vc:=fun j=> hor m low x (m - k) (fun t=> y (k + t)) j % (p:Int)
theorem hst_top (p m:Nat) (low x y:Vc) (j:Nat):hst p m low x y m j=0:=by
 unfold hst;rw [Nat.sub_self];simp [hor]
theorem hst_rng {p:Nat} (hp:1≤p) (m:Nat) (low x y:Vc) (k j:Nat):0≤hst p m low x y k j∧hst p m low x y k j < p:=
 ⟨Int.emod_nonneg _ (by omega),Int.emod_lt_of_pos _ (by omega)⟩
theorem hst_step {p m:Nat} (low x y:Vc) {k j:Nat} (hk:k < m) (hj:j < m):
  hst p m low x y k j=((if j=0 then 0 else hst p m low x y (k + 1) (j - 1)) + ((p:Int) - hst p m low x y (k + 1) (m - 1)) * low j + y k * x j) % (p:Int):=by
 unfold hst;rw [show m - k=(m - (k + 1)) + 1 by omega,hor];have e:(fun t=> y (k + (t + 1)))=fun t=> y (k + 1 + t):=by funext t;rw [show k + (t + 1)=k + 1 + t by omega]
 rw [e];generalize hor m low x (m - (k + 1)) (fun t=> y (k + 1 + t))=H;unfold sX;show ((if j < m then (if j=0 then 0 else H (j - 1)) - H (m - 1) * low j else 0) + y (k + 0) * x j) % (p:Int)=_
 rw [if_pos hj,Nat.add_zero];refine eqm_add ?_ rfl;have h1:((if j=0 then 0 else H (j - 1)) - H (m - 1) * low j) % (p:Int)=((if j=0 then 0 else H (j - 1)) + ((p:Int) - H (m - 1)) * low j) % (p:Int):=by
  refine eqm_iff.2 ⟨- low j,?_⟩;generalize (if j=0 then 0 else H (j - 1))=z
  grind
 rw [h1];refine eqm_add ?_ (eqm_mul (eqm_sub rfl (Int.emod_emod_of_dvd _ (Int.dvd_refl _)).symm) rfl);split
 ·rfl
 ·exact (Int.emod_emod_of_dvd _ (Int.dvd_refl _)).symm
theorem hst_end {p:Nat} (hp:1≤p) (m:Nat) (low:Vc) (x y:Nat):cod p m (hst p m low (dig p m x) (dig p m y) 0)=((kmul p m low x y:Nat):Int):=by
 unfold kmul rep mulV;rw [Int.toNat_of_nonneg (cod_rng (fun j=> ⟨Int.emod_nonneg _ (by omega),Int.emod_lt_of_pos _ (by omega)⟩) m).1];refine cod_congr m fun j _=> ?_;unfold hst;rw [Nat.sub_zero,hor_ap];simp only [Nat.zero_add]
def shf (o:Nat→Int):Nat→Int:=fun j=> if j=0 then 0 else o (j - 1)
theorem splice_shift (n:Nat) (o:Nat→Int):splice (vs (n + 1) (iv o)) 1 (vs n (iv o))=vs (n + 1) (iv fun j=> if j=0 then o 0 else o (j - 1)):=by
 unfold splice;apply List.ext_getElem?;intro j;rcases j with _ | j
 ·simp [vs,iv,List.range_succ_eq_map]
 ·by_cases hj:j < n
  ·simp [vs,iv,hj,List.getElem?_append]
  ·simp [vs,iv,hj,List.getElem?_append];omega
theorem multiply_any (p m x y:Nat) (ml:List Int) (mv:Value) (w:World) (hf:FSh p m ml) (hmv:ISl w mv ml) (hx:x < p ^ m) (hy:y < p ^ m):
  Calls Tryz.prog 168 #[.agg #[.int .i64 p,.int .i64 m,mv],.int .i64 x,.int .i64 y] w fun r w'=> r= .returned (.int .i64 (kmul p m (lw ml) x y))∧Ex w w':=by
 obtain ⟨p2,m1,m8,q,len,rng⟩:=hf;have p256:=FSh.p256 ⟨p2,m1,m8,q,len,rng⟩;obtain ⟨xb,hxb⟩:∃xb,w.heap.size=xb:=⟨_,rfl⟩;have HX:=hid_ hxb;go_enter Tryz.func168,Tryz.ntmps168
 go_wp2_with fail
 try simp only [hxb]
 have d0:(w.alloc (.cells #[.int .i64 p,.int .i64 m,mv] 24)).cell? ⟨xb,0,none⟩=some (.int .i64 p):=by rw [←hxb];simp
 have d1:(w.alloc (.cells #[.int .i64 p,.int .i64 m,mv] 24)).cell? ⟨xb,1,none⟩=some (.int .i64 m):=by rw [←hxb];simp
 have d2:(w.alloc (.cells #[.int .i64 p,.int .i64 m,mv] 24)).cell? ⟨xb,2,none⟩=some mv:=by rw [←hxb];simp
 have e0:Ex w (w.alloc (.cells #[.int .i64 p,.int .i64 m,mv] 24)):=(Ex.refl _).alloc _;generalize w.alloc (.cells #[.int .i64 p,.int .i64 m,mv] 24)=w1 at *;clear hxb
 go_region_held3 (fun w'=> w'.cell? ⟨xb,0,none⟩=some (.int .i64 p)∧w'.cell? ⟨xb,1,none⟩=some (.int .i64 m)∧w'.cell? ⟨xb,2,none⟩=some mv∧Ex w w')
  (first | exact ⟨d0,d1,d2,e0.drew⟩ | exact ⟨hx1.cell d0,hx1.cell d1,hx1.cell d2,e0.drew.trans hx1⟩ | (obtain ⟨k0,k1,k2,k3⟩:=‹_∧_∧_∧Ex w _›;exact ⟨hx1.cell k0,hx1.cell k1,hx1.cell k2,k3.trans hx1⟩))
  ((go_at_call 183;refine (digitsOf_any _ _ _ _ (by omega) (by omega) (by omega) (by omega)).mono ?_;rintro e w2 ⟨v,rfl,hs,hx1⟩))
 have hsa:=‹ISl _ _ (il m (dig p m x))›.ex hx1;have hsb:=hs;obtain ⟨k0,k1,k2,k3⟩:=‹_∧_∧_∧Ex w _›;clear d0 d1 d2 e0 hx1;obtain ⟨aa,ca,rfl,a1,a2,a3⟩:=hsa.open;obtain ⟨ab,cb,rfl,b1,b2,b3⟩:=hsb.open;have hmv2:=hmv.ex k3;obtain ⟨am,cm,rfl,c1,c2,c3⟩:=hmv2.open;simp only [il_length] at *;obtain ⟨aab,aao,rfl,a4⟩:=a3 (by omega);obtain ⟨abb,abo,rfl,b4⟩:=b3 (by omega);have A4:=hid_ (fun j (hj:j < m)=> a4 j _ (il_get hj _));have B4:=hid_ (fun j (hj:j < m)=> b4 j _ (il_get hj _));have C3:=hid_ c3;have LEN:=hid_ len;unfold maxLen at a2 b2 c2;have HLR:=hid_ (show ∀j,0≤lw ml j∧lw ml j < p from fun j=> by
  unfold lw;rw [List.getD_eq_getElem?_getD];rcases h:ml[j]? with _ | z
  ·simp;omega
  ·exact rng z (List.mem_of_getElem? h))
 have HXR:=hid_ (dig_rng (show 1≤p by omega) m x);have HYR:=hid_ (dig_rng (show 1≤p by omega) m y);clear a3 b3 c3 a4 b4 hsa hsb hmv2 hmv rng len;go_wp2_with (at_make;refine wpList_make_arr _ rfl _ _ 22 rfl 3 (.int .i64 0) 8 Tryz.underlying22 infoInt rfl _ m rfl rfl rfl (by omega) (by unfold maxLen;omega) ?_)
 intro w4 hown hx4;obtain ⟨g,hg⟩:∃g,w2.heap.size=g:=⟨_,rfl⟩;have hown1:Own w4 g 3 g m (iv (hst p m (lw ml) (dig p m x) (dig p m y) m)):=by
  rw [hg] at hown;exact hown.congr fun j _=> by unfold iv;rw [hst_top]
 have HG:=hid_ hg;have HEX:=hid_ (fun (wr:World) (h:Own wr g 3 g m (iv (hst p m (lw ml) (dig p m x) (dig p m y) 0)))=> h.isl);have HEN:=hid_ (hst_end (show 1≤p by omega) m (lw ml) x y);have HST:=hid_ (fun k j (hk:k < m) (hj:j < m)=> hst_step (p:=p) (lw ml) (dig p m x) (dig p m y) hk hj);have HRG:=hid_ (fun k j=> hst_rng (show 1≤p by omega) m (lw ml) (dig p m x) (dig p m y) k j);have hgs:xb < g:=by rw [←hg];exact World.block_lt_of_cell? _ _ k0
 simp only [hg];clear hown hg;generalize hst p m (lw ml) (dig p m x) (dig p m y)=H at *;have q0:=hx4.cell k0;have q1:=hx4.cell k1;go_wp2_with fail
 clear q0 q1
 go_loopw [10] (fun i' wr=> ∃k:Nat,k≤m∧i'= .int .i64 ((k:Int) - 1)∧Own wr g 3 g m (iv (H k))∧Ex w2 wr) (fun i' _=> (intOf i' + 1).toNat)
 case atStart=> exact ⟨m,by omega,rfl,hown1,hx4⟩
 case round=>
  clear hown1 hx4;obtain ⟨k,hk,rfl,hown,hxr⟩:=hrel;have r0:=hxr.cell k0;have r1:=hxr.cell k1;have r2:=hxr.cell k2;rcases k with _ | k
  ·have hsl:=HEX.out _ hown;have HQ:=hid_ hsl;have HRL:=hid_ (show ∀z∈il m (H 0),0≤z∧z < p from fun z hz=> by
    obtain ⟨j,_,rfl⟩:=List.mem_map.1 hz;exact HRG.out 0 j)
   have HQ2:=hid_ (show p ^ (il m (H 0)).length≤65536 by rw [il_length];omega);have HVL:=hid_ (show vl p (il m (H 0))=((kmul p m (lw ml) x y:Nat):Int) by rw [vl_il];exact HEN.out);clear hsl hown;go_wp2_with fail
   refine (valueOf_any _ _ _ _ HQ.out (by omega) (by omega) HRL.out HQ2.out).mono ?_;rintro e w9 ⟨rfl,rfl⟩;go_wp2_with fail
   go_ret;exact ⟨ret_int HVL.out,k3.trans hxr⟩
  ·have hd0:=hown.cell (show m - 1 < m by omega);have hd1:wr.cell? ⟨g,m - 1,none⟩=some (.int .i64 (H (k + 1) (m - 1))):=hd0;have e:(((k + 1:Nat)):Int) - 1=k:=by omega
   rw [e];clear hd0 e;have hxg:Below g w2 wr:=by rw [←HG.out];exact hxr
   have HN1:=hid_ (show m=(m - 1) + 1 by omega);have HO:=hid_ hown;have HXR2:=hid_ hxr;have HXG:=hid_ hxg;clear hown hxr hxg;go_wp2_with fail
   have i1:(1:Int)≤(m:Int):=by omega
   have i3:(0:Int)≤(m:Int) - 1:=by omega
   have i4:(m:Int) - 1≤(m:Int):=by omega
   have i5:((m:Int) - 1).toNat=m - 1:=by omega
   have i7:IntKind.i64.wrap ((m:Int) - 1)=(m:Int) - 1:=IntWalk.i64_in _ (by omega);have HP:=hid_ (show wr.drew.heap[g]?=some (.cells (vs m (iv (H (k + 1)))).toArray 3 (0,0)) from HO.out.drew.heap);have HQ:=hid_ (show ∀(j:Nat) (v:Value),(vs (m - 1) (iv (H (k + 1))))[j]?=some v→wr.drew.cell? ((⟨g,0,none⟩:Addr).add j)=some v from fun j v h=> by
    have hj:j < m - 1:=by have:=(List.getElem?_eq_some_iff.1 h).1;rwa [vs_length] at this
    rw [vs_get hj] at h;injection h with h;have h2:(⟨g,0,none⟩:Addr).add j=⟨g,j,none⟩:=by unfold Addr.add;split <;> simp_all
    rw [h2,←h];exact HO.out.drew.cell (by omega))
   have HN:=hid_ (show (vs (m - 1) (iv (H (k + 1)))).length=Nat.min (m - 1) (m - 1) by rw [vs_length];exact (Nat.min_self _).symm);have HNE:=hid_ (show 0 < (vs (m - 1) (iv (H (k + 1)))).length→¬m=1 by rw [vs_length];omega);have HF:=hid_ (show 1 + (vs (m - 1) (iv (H (k + 1)))).length≤(vs m (iv (H (k + 1)))).length by rw [vs_length,vs_length];omega);have HO1:=hid_ (show ∀v∈vs (m - 1) (iv (H (k + 1))),v.oneCell'=true from fun v h=> by
    obtain ⟨j,_,rfl⟩:=List.mem_map.1 h;rfl)
   have HBL:=hid_ (show Below g w2 wr.drew from Below.drew HXG.out)
   go_region_law ((go_loud (refine step_copy_splice (by rfl) _ _ _ _ (by rfl) 3 Tryz.underlying22 (by kernel_rfl) _ _ _ _ _ _ (by rfl) (by rfl) g 1 (vs m (iv (H (k + 1)))) 3 HP.out (vs (m - 1) (iv (H (k + 1)))) HN.out (fun h=> ⟨if_neg (HNE.out h),_,rfl,HQ.out⟩) HF.out HO1.out g w2 HBL.out (Nat.le_refl _) ?_);intro w5 hw5 hb5))
   all_goals
    generalize (if m=1 then some (⟨g,0,none⟩:Addr) else some ⟨g,1,none⟩)=sd;clear i1 i3 i4 i5 i7 HP HQ HF HO1 HBL HNE HN HXG;have HO5:Hid (Own w5 g 3 g m (iv fun j=> if j=0 then H (k + 1) 0 else H (k + 1) (j - 1))):=by
     apply hid_;refine Own.of_heap ?_ (Nat.le_refl _) (by unfold maxLen;omega);have h:=hw5.out;rw [HN1.out,Nat.add_sub_cancel,splice_shift] at h;rw [HN1.out];exact h
    have HX5:Hid (Ex w2 w5):=hid_ (by rw [←HG.out] at hb5;exact hb5);clear hw5 hb5;have HO6:=hid_ (HO5.out.set 0 (.int .i64 0));have HX6:=hid_ (HO5.out.exSet (by rw [HG.out];exact Nat.le_refl _) HX5.out 0 (.int .i64 0));have f5:=HO5.out.frz 0;have m0:0 < m:=by omega
    have m0':(0:Int) < (m:Int):=by omega
    have c5:=HO5.out.cell (show 0 < m by omega);clear r0 r1 r2 HO HXR2 hd1;go_wp2_with fail
    generalize w5.setCell ⟨g,0,none⟩ (.int .i64 0)=w6 at *;have HO7:Hid (Own w6 g 3 g m (iv fun t=> if t < 0 then H k t else shf (H (k + 1)) t)):=by
     apply hid_;have:=HO6.out;rw [iv_upd] at this;refine this.icongr fun j hj=> ?_;unfold upd shf;rw [if_neg (show ¬j < 0 by omega)];by_cases h:j=0
     ·rw [if_pos h,if_pos h]
     ·rw [if_neg h,if_neg h];exact if_neg h
    clear HO5 HX5 HO6 f5 c5
    go_loopw [12,13,54] (fun _ _ j' wz=> ∃j:Nat,j≤m∧j'= .int .i64 j∧Hid (Own wz g 3 g m (iv fun t=> if t < j then H k t else shf (H (k + 1)) t))∧Ex w2 wz) (fun _ _ j' _=> m - (intOf j').toNat)
    case atStart=> exact ⟨0,by omega,rfl,HO7,HX6.out⟩
    case round=>
     clear HO7 HX6;obtain ⟨j,hj,rfl,HO,hxz⟩:=hrel;have r0:=hxz.cell k0;have r1:=hxz.cell k1;have r2:=hxz.cell k2;by_cases hlt:j < m
     ·have hoj:wr.cell? ⟨g,j,none⟩=some (.int .i64 (shf (H (k + 1)) j)):=by
       have h:=HO.out.cell hlt;rw [h];unfold iv;simp
      have hfj:=HO.out.frz j;have ha:=hxz.cell (A4.out j hlt);have hb:=hxz.cell (B4.out k (by omega));have hst:=HST.out k j (by omega) hlt;have HS:Hid ((shf (H (k + 1)) j + ((p:Int) - H (k + 1) (m - 1)) * lw ml j + dig p m y k * dig p m x j) % (p:Int)=H k j):=hid_ (by rw [hst];rfl);obtain ⟨t1,t2⟩:=HRG.out (k + 1) (m - 1);obtain ⟨l1,l2⟩:=HLR.out j;obtain ⟨u1,u2⟩:=HXR.out j;obtain ⟨v1,v2⟩:=HYR.out k;have hsh:0≤shf (H (k + 1)) j∧shf (H (k + 1)) j < p:=by
       unfold shf;split
       ·omega
       ·exact HRG.out _ _
      obtain ⟨s1,s2⟩:=hsh;have HO8:=hid_ (fun z=> HO.out.set j (.int .i64 z));have HX8:=hid_ (fun z=> HO.out.exSet (by rw [HG.out];exact Nat.le_refl _) hxz j (.int .i64 z));have HLW:=hid_ (show ¬1 < m→lw ml j=0 from fun h=> by
       unfold lw;have hl:=LEN.out;rw [if_pos (by omega)] at hl;rw [List.eq_nil_of_length_eq_zero hl];rfl)
      have HLM:=hid_ (show 1 < m→∃b o,am=some ⟨b,o,none⟩∧wr.cell? ⟨b,o + j,none⟩=some (.int .i64 (lw ml j))∧j < ml.length from fun h=> by
       have hl:=LEN.out;rw [if_neg (by omega)] at hl;obtain ⟨b,o,e,hc⟩:=C3.out (by omega);refine ⟨b,o,e,hxz.cell (hc j _ ?_),by omega⟩;unfold lw;rw [List.getD_eq_getElem?_getD,List.getElem?_eq_getElem (by omega)];rfl)
      generalize shf (H (k + 1)) j=sj at *;generalize H (k + 1) (m - 1)=tp at *;generalize lw ml j=lj at *;generalize dig p m x j=xj at *;generalize dig p m y k=yk at *;have p1:0≤((p:Int) - tp) * lj:=Int.mul_nonneg (by omega) l1;have p3:((p:Int) - tp) * lj≤65536:=by
       have:=Int.mul_le_mul (show (p:Int) - tp≤256 by omega) (show lj≤256 by omega) l1 (by omega);omega
      have p4:0≤yk * xj:=Int.mul_nonneg v1 u1;have p5:yk * xj≤65536:=by
       have:=Int.mul_le_mul (show yk≤256 by omega) (show xj≤256 by omega) u1 (by omega);omega
      have hkm:k < m:=by omega
      clear hst hk hgs;by_cases hm1:1 < m
      ·obtain ⟨bb,oo,rfl,hcm,hjl⟩:=HLM.out hm1;clear HLM HLW;go_wp2_with fail
       have w1:IntKind.i64.wrap ((p:Int) - tp)=(p:Int) - tp:=IntWalk.i64_in _ (by omega);have w2':IntKind.i64.wrap (((p:Int) - tp) * lj)=((p:Int) - tp) * lj:=IntWalk.i64_in _ (by omega);have w3:IntKind.i64.wrap (sj + ((p:Int) - tp) * lj)=sj + ((p:Int) - tp) * lj:=IntWalk.i64_in _ (by omega);have w4':IntKind.i64.wrap (yk * xj)=yk * xj:=IntWalk.i64_in _ (by omega);have w5':IntKind.i64.wrap (sj + ((p:Int) - tp) * lj + yk * xj)=sj + ((p:Int) - tp) * lj + yk * xj:=IntWalk.i64_in _ (by omega);have w6:(sj + ((p:Int) - tp) * lj + yk * xj).tmod (p:Int)=(sj + ((p:Int) - tp) * lj + yk * xj) % (p:Int):=Int.tmod_eq_emod_of_nonneg (by omega);have p0:¬p=0:=by omega
       go_still_tail 27,(by kernel_rfl)
       change wpList _ _ _ _ _ wr.drew
       clear w1 w2' w3 w4' w5' w6;go_wp2_with fail
       go_roundw
       case rel=>
        refine ⟨j + 1,by omega,by go_num,?_,(HX8.out _).drew⟩;have h:=(HO8.out ((sj + ((p:Int) - tp) * lj + yk * xj) % (p:Int))).drew;rw [iv_upd] at h;refine hid_ (h.icongr fun t ht=> ?_);unfold upd;dsimp only;by_cases h1:t=j
        ·subst h1;rw [if_pos rfl,if_pos (by omega),HS.out]
        ·rw [if_neg h1];by_cases h2:t < j
         ·rw [if_pos h2,if_pos (by omega)]
         ·rw [if_neg h2,if_neg (by omega)]
       case measure=> simp [intOf];omega
      ·obtain rfl:lj=0:=HLW.out hm1;clear HLM HLW;have HS2:Hid ((sj + yk * xj) % (p:Int)=H k j):=hid_ (by have:=HS.out;rwa [Int.mul_zero,Int.add_zero] at this);clear p1 p3;go_wp2_with fail
       have w1:IntKind.i64.wrap ((p:Int) - tp)=(p:Int) - tp:=IntWalk.i64_in _ (by omega);have w3:IntKind.i64.wrap sj=sj:=IntWalk.i64_in _ (by omega);have w4':IntKind.i64.wrap (yk * xj)=yk * xj:=IntWalk.i64_in _ (by omega);have w5':IntKind.i64.wrap (sj + yk * xj)=sj + yk * xj:=IntWalk.i64_in _ (by omega);have w6:(sj + yk * xj).tmod (p:Int)=(sj + yk * xj) % (p:Int):=Int.tmod_eq_emod_of_nonneg (by omega);have p0:¬p=0:=by omega
       go_still_tail 27,(by kernel_rfl)
       change wpList _ _ _ _ _ wr.drew
       clear w1 w3 w4' w5' w6;go_wp2_with fail
       go_roundw
       case rel=>
        refine ⟨j + 1,by omega,by go_num,?_,(HX8.out _).drew⟩;have h:=(HO8.out ((sj + yk * xj) % (p:Int))).drew;rw [iv_upd] at h;refine hid_ (h.icongr fun t ht=> ?_);unfold upd;dsimp only;by_cases h1:t=j
        ·subst h1;rw [if_pos rfl,if_pos (by omega),HS2.out]
        ·rw [if_neg h1];by_cases h2:t < j
         ·rw [if_pos h2,if_pos (by omega)]
         ·rw [if_neg h2,if_neg (by omega)]
       case measure=> simp [intOf];omega
     ·obtain rfl:j=m:=by omega
      have HOe:=HO.out.icongr (h:=H k) fun t ht=> if_pos ht;clear HO;go_wp2_with fail
      go_roundw
      case rel=> exact ⟨k,by omega,rfl,HOe,hxz⟩
      case measure=> simp [intOf]
end
section
open Go.RowKit
def pwI (p m:Nat) (ml:List Int) (x:Nat):Nat→Int:=fun k=> ((kpw p m (lw ml) x k:Nat):Int)
theorem il_succ (n:Nat) (f:Nat→Int):il (n + 1) f=il n f ++ [f n]:=by simp [il,List.range_succ]
def seenB (p m:Nat) (ml:List Int) (x k:Nat):Nat→Bool:=fun z=> decide (∃i,i < k∧kpw p m (lw ml) x i=z)
theorem powers_any (p m x:Nat) (ml:List Int) (mv:Value) (w:World) (hf:FSh p m ml) (hmv:ISl w mv ml) (hx:x < p ^ m):
  Calls Tryz.prog 167 #[.agg #[.int .i64 p,.int .i64 m,mv],.int .i64 ((p ^ m:Nat):Int),.int .i64 x] w fun r w'=> ∃v L,r= .returned v∧PwEnd p m (lw ml) x L∧ISl w' v (il L (pwI p m ml x))∧Ex w w':=by
 have hp:=hf.p2;have hm:=hf.m1;have HF:=hid_ hf;have HMV:=hid_ hmv;have hq:=hf.q;have hq1:1 < p ^ m:=one_lt_q hp hm;have HL:=hid_ (fun k=> kpw_lt (low:=lw ml) hp hm x k);have HM:=hid_ (fun (y:Nat) (w':World) (h:y < p ^ m) (h':ISl w' mv ml)=> multiply_any p m y x ml mv w' hf h' h hx);have HP1:=hid_ (PwOK.one (low:=lw ml) hp hm x);have HPL:=hid_ (fun k (h:PwOK p m (lw ml) x k)=> h.len hp hm);have HX1:=hid_ (show kpw p m (lw ml) x 1=x by simp only [kpw];exact one_kmul hp hm hx);clear hf hmv hm;obtain ⟨q,hqq⟩:∃q,p ^ m=q:=⟨_,rfl⟩;simp only [hqq] at hq hq1 HL HM HPL hx ⊢;have HQ:=hid_ hqq;clear hqq;obtain ⟨xb,hxb⟩:∃xb,w.heap.size=xb:=⟨_,rfl⟩;have HXB:=hid_ hxb;go_enter Tryz.func167,Tryz.ntmps167
 go_wp2_with (at_make;refine wpList_make_arr _ rfl _ _ 202 rfl 4 (.bool false) 1 Tryz.underlying202 infoBool rfl _ q rfl rfl rfl (by omega) (by unfold maxLen;omega) ?_)
 intro w3 hown hx3;clear hxb;have d0:(w.alloc (.cells #[.int .i64 p,.int .i64 m,mv] 24)).cell? ⟨xb,0,none⟩=some (.int .i64 p):=by rw [←HXB.out];simp
 have d1:(w.alloc (.cells #[.int .i64 p,.int .i64 m,mv] 24)).cell? ⟨xb,1,none⟩=some (.int .i64 m):=by rw [←HXB.out];simp
 have d2:(w.alloc (.cells #[.int .i64 p,.int .i64 m,mv] 24)).cell? ⟨xb,2,none⟩=some mv:=by rw [←HXB.out];simp
 have d3:(w.alloc (.cells #[.int .i64 p,.int .i64 m,mv] 24)).heap.size=xb + 1:=by rw [←HXB.out];simp
 have e0:Ex w (w.alloc (.cells #[.int .i64 p,.int .i64 m,mv] 24)):=(Ex.refl _).alloc _;generalize w.alloc (.cells #[.int .i64 p,.int .i64 m,mv] 24)=w1 at *;have o1:(w1.alloc (.cells #[.int .i64 1] 3)).ownsRow (xb + 1) 3 1 (.slice (some ⟨xb + 1,0,none⟩) 1 1) 1 (vs 1 (iv (pwI p m ml x))):=by
  have:=own_lit1 w1 (.int .i64 1) 3;rw [d3] at this;exact this
 have e1:Ex w1 (w1.alloc (.cells #[.int .i64 1] 3)):=(Ex.refl _).alloc _;have g2:(w1.alloc (.cells #[.int .i64 1] 3)).heap.size=xb + 2:=by simp [d3]
 generalize w1.alloc (.cells #[.int .i64 1] 3)=w2 at *;have o2:=ownsRow_ex o1 hx3;have hown2:Own w3 (xb + 1) 4 (xb + 1 + 1) q (bv fun _=> false):=hown.mono (by omega);have ex3:Ex w1 w3:=e1.trans hx3;have f1:=hown2.frz 1;have c1:=hown2.cell hq1;have q1:(1:Int) < (q:Int):=by omega
 have HS1:=hid_ (hown2.set 1 (.bool true));have HE1:=hid_ (hown2.exSet (a:=w1) (by omega) ex3 1 (.bool true));have HR1:=hid_ (ownsRow_setCell_ne o2 (a:=⟨xb + 1 + 1,1,none⟩) (by simp [Value.ownBlock]) (.bool true));clear hown hx3 o1 g2 o2 hown2 ex3 e1 w2;go_wp2_with fail
 generalize w3.setCell ⟨xb + 1 + 1,1,none⟩ (.bool true)=w4 at *;have HS2:Hid (Own w4 (xb + 1) 4 (xb + 1 + 1) q (bv (seenB p m ml x 1))):=hid_ (by
  have:=HS1.out;rw [bv_upd] at this;refine this.bcongr fun j hj=> ?_;unfold upd seenB;rw [Bool.eq_iff_iff];by_cases h:j=1
  ·subst h;simp;rfl
  ·simp [h];simp only [kpw];exact fun e=> h e.symm)
 clear HS1 f1 c1 w3;obtain ⟨g,hg⟩:∃g,xb + 1 + 1=g:=⟨_,rfl⟩;have HG:=hid_ (show xb + 1 < g by omega);rw [hg] at HS2
 try simp only [hg]
 have HNB:Hid (Value.ownBlock (.slice (some ⟨xb + 1,0,none⟩) 1 1)≠some g):=hid_ (by simp [Value.ownBlock];omega);clear hg
 go_loopw [7,9] (fun o' y' wr=> ∃k:Nat,1≤k∧Hid (PwOK p m (lw ml) x k)∧y'= .int .i64 ((kpw p m (lw ml) x k:Nat):Int)∧Hid (wr.ownsRow (xb + 1) 3 1 o' k (vs k (iv (pwI p m ml x))))∧
  Hid (Own wr (xb + 1) 4 g q (bv (seenB p m ml x k)))∧Hid (o'.ownBlock≠some g)∧Ex w1 wr) (fun o' _ _=> q - lenV o')
 case atStart=> exact ⟨1,by omega,HP1,by rw [HX1.out],HR1,HS2,HNB,HE1.out⟩
 case round=>
  clear HR1 HS2 HNB HE1;obtain ⟨k,hk1,hok,rfl,hrow,hseen,hnb,hxr⟩:=hrel;have hkq:=HPL.out k hok.out;have hlen:=lenV_own hrow.out;have r0:=hxr.cell d0;have r1:=hxr.cell d1;have r2:=hxr.cell d2;have hyq:=HL.out k;obtain ⟨oa,ocap,ho,ho2,ho3⟩:=own_open hrow.out hk1;subst ho;have HY:=hid_ (show kpw p m (lw ml) x (k + 1)=kmul p m (lw ml) (kpw p m (lw ml) x k) x from rfl);obtain ⟨y,hy⟩:∃y,kpw p m (lw ml) x k=y:=⟨_,rfl⟩;have HYK:=hid_ hy;rw [hy] at hyq HY ⊢;by_cases h0:y=0
  ·have HEND:Hid (PwEnd p m (lw ml) x k):=hid_ ⟨hk1,by have:=HQ.out;omega,hok.out,.inl (by rw [HYK.out];exact h0)⟩;have hb:((y:Int) !=0)=false:=by simp;omega
   have HRES:=hid_ (show ISl wr (.slice (some ⟨oa,0,none⟩) k ocap) (il k (pwI p m ml x)) by
    unfold ISl;rw [il_length,ints_il];exact Sl.own hrow.out)
   clear h0 hy hlen;go_wp2_with fail
   go_ret;exact ⟨_,k,rfl,HEND.out,HRES.out,e0.trans hxr⟩
  ·have hb:((y:Int) !=0)=true:=by simp;omega
   have hcy:=hseen.out.cell hyq;have hfy:=hseen.out.frz y;by_cases hs:seenB p m ml x k y=true
   ·have HEND:Hid (PwEnd p m (lw ml) x k):=hid_ ⟨hk1,by have:=HQ.out;omega,hok.out,.inr (by
     unfold seenB at hs;obtain ⟨i,hi,e⟩:=of_decide_eq_true hs;exact ⟨i,hi,by rw [e,HYK.out]⟩)⟩
    have hcy':wr.cell? ⟨g,y,none⟩=some (.bool true):=by rw [hcy];unfold bv;rw [hs]
    have HRES:=hid_ (show ISl wr (.slice (some ⟨oa,0,none⟩) k ocap) (il k (pwI p m ml x)) by
     unfold ISl;rw [il_length,ints_il];exact Sl.own hrow.out)
    clear h0 hy hlen hcy hs;go_wp2_with fail
    go_ret;exact ⟨_,k,rfl,HEND.out,HRES.out,e0.trans hxr⟩
   ·have hs':seenB p m ml x k y=false:=by simpa using hs
    have hcy':wr.cell? ⟨g,y,none⟩=some (.bool false):=by rw [hcy];unfold bv;rw [hs']
    have HOK:Hid (PwOK p m (lw ml) x (k + 1)):=hid_ (hok.out.succ (by rw [HYK.out];exact h0) (fun j hj e=> by
     rw [HYK.out] at e;exact hs (decide_eq_true ⟨j,hj,e⟩)))
    have HLN:=hid_ hlen;clear h0 hy hlen hcy hs hs';have HSN:Hid (Own (wr.setCell ⟨g,y,none⟩ (.bool true)) (xb + 1) 4 g q (bv (seenB p m ml x (k + 1)))):=hid_ (by
     have:=hseen.out.set y (.bool true);rw [bv_upd] at this;refine this.bcongr fun j hj=> ?_;unfold upd seenB;rw [Bool.eq_iff_iff];by_cases h:j=y
     ·rw [if_pos h];simp;exact ⟨k,by omega,by rw [HYK.out,h]⟩
     ·rw [if_neg h];simp;constructor
      ·rintro ⟨i,hi,e⟩;exact ⟨i,by omega,e⟩
      ·rintro ⟨i,hi,e⟩;by_cases h3:i=k
       ·subst h3;rw [HYK.out] at e;exact absurd e.symm h
       ·exact ⟨i,by omega,e⟩)
    have HRN:=hid_ (ownsRow_setCell_ne hrow.out (a:=⟨g,y,none⟩) hnb.out (.bool true));have HXN:=hid_ (hseen.out.exSet (a:=w1) (by omega) hxr y (.bool true));have HSZ:=hid_ (show xb + 1≤(wr.setCell ⟨g,y,none⟩ (.bool true)).heap.size by have:=HXN.out.size;omega);go_wp2_with (at_builtin;go_loud (refine wpList_append1 _ rfl _ _ 22 rfl (xb + 1) 3 (.int .i64 0) 1 8 Tryz.underlying22 infoInt rfl (by decide) _ k _ rfl HRN.out [.int .i64 (y:Int)] 3 _ rfl (by simp) rfl (by simp [Value.oneCell']) (by unfold maxLen;omega) (by omega) HSZ.out ?_))
    intro v' w5 happ;have HRR:Hid (w5.ownsRow (xb + 1) 3 1 v' (k + 1) (vs (k + 1) (iv (pwI p m ml x)))):=hid_ (by
     have:=happ.own;rw [vs_succ];unfold iv pwI;rw [HYK.out];exact this)
    obtain ⟨hs5,hn5⟩:=happ.arr HSN.out hnb.out;have HS5:=hid_ hs5;have HN5:=hid_ hn5;have hx5:=happ.ex HXN.out (by omega);have HL5:=hid_ (lenV_own HRR.out);have r0:=hx5.cell d0;have r1:=hx5.cell d1;have r2:=hx5.cell d2;clear happ hs5 hn5 HSN HRN HXN HSZ hcy' hfy hb hxr;go_wp2_with fail
    refine (HM.out y w5 hyq (HMV.out.ex (e0.trans hx5))).mono ?_;rintro e w6 ⟨rfl,hx6⟩;go_wp2_with fail
    go_roundw
    case rel=> exact ⟨k + 1,by omega,HOK,by rw [HY.out],hid_ (ownsRow_ex HRR.out hx6),hid_ (HS5.out.ex hx6),HN5,hx5.trans hx6⟩
    case measure=> rw [HL5.out,HLN.out];omega
def GenOut (p m:Nat) (ml:List Int) (w':World) (v:Value):Prop:=
 (∃x,1≤x∧x < p ^ m∧GenOK p m (lw ml) x∧ISl w' v (il (p ^ m - 1) (pwI p m ml x)))∨(¬IsF p m (lw ml)∧v= .slice none 0 0)
theorem generator_any (p m:Nat) (ml:List Int) (mv:Value) (w:World) (hf:FSh p m ml) (hmv:ISl w mv ml):
  Calls Tryz.prog 137 #[.agg #[.int .i64 p,.int .i64 m,mv],.int .i64 ((p ^ m:Nat):Int)] w fun r w'=> ∃v,r= .returned v∧GenOut p m ml w' v∧Ex w w':=by
 have hp:=hf.p2;have hm:=hf.m1;have HMV:=hid_ hmv;have hq:=hf.q;have hq1:1 < p ^ m:=one_lt_q hp hm;have HPW:=hid_ (fun (x:Nat) (w':World) (h:x < p ^ m) (h':ISl w' mv ml)=> powers_any p m x ml mv w' hf h' h);have HM:=hid_ (fun (x y:Nat) (w':World) (h:y < p ^ m) (hx:x < p ^ m) (h':ISl w' mv ml)=> multiply_any p m y x ml mv w' hf h' h hx);have HL:=hid_ (fun x k=> kpw_lt (low:=lw ml) hp hm x k);have HGEN:=hid_ (fun x L (h:PwEnd p m (lw ml) x L)=> h.gen hp hm);have HPE:=hid_ (fun x L (h:PwEnd p m (lw ml) x L)=> h.2.1);have HGO:=hid_ (show ∀w' v,GenOut p m ml w' v↔((∃x,1≤x∧x < p ^ m∧GenOK p m (lw ml) x∧ISl w' v (il (p ^ m - 1) (pwI p m ml x)))∨(¬IsF p m (lw ml)∧v= .slice none 0 0)) from fun _ _=> Iff.rfl);have HIS:=hid_ (show IsF p m (lw ml)↔∃x,1≤x∧x < p ^ m∧GenOK p m (lw ml) x from Iff.rfl);have HK:=hid_ (show ∀x k,kpw p m (lw ml) x (k + 1)=kmul p m (lw ml) (kpw p m (lw ml) x k) x from fun _ _=> rfl);clear hf hmv hm;obtain ⟨q,hqq⟩:∃q,p ^ m=q:=⟨_,rfl⟩;simp only [hqq] at hq hq1 HPW HM HL HGEN HPE HGO HIS ⊢;have HQ:=hid_ hqq;clear hqq;obtain ⟨xb,hxb⟩:∃xb,w.heap.size=xb:=⟨_,rfl⟩;have d0:(w.alloc (.cells #[.int .i64 p,.int .i64 m,mv] 24)).cell? ⟨xb,0,none⟩=some (.int .i64 p):=by rw [←hxb];simp
 have d1:(w.alloc (.cells #[.int .i64 p,.int .i64 m,mv] 24)).cell? ⟨xb,1,none⟩=some (.int .i64 m):=by rw [←hxb];simp
 have d2:(w.alloc (.cells #[.int .i64 p,.int .i64 m,mv] 24)).cell? ⟨xb,2,none⟩=some mv:=by rw [←hxb];simp
 have D0:=hid_ d0;have D1:=hid_ d1;have D2:=hid_ d2;clear d0 d1 d2;go_enter Tryz.func137,Tryz.ntmps137
 go_wp2_with fail
 clear hxb;have d0:=D0.out;have d1:=D1.out;have d2:=D2.out;clear D0 D1 D2;have e0:Ex w (w.alloc (.cells #[.int .i64 p,.int .i64 m,mv] 24)):=(Ex.refl _).alloc _;generalize w.alloc (.cells #[.int .i64 p,.int .i64 m,mv] 24)=w1 at *
 go_loopw [5] (fun x' wr=> ∃x:Nat,1≤x∧x≤q∧x'= .int .i64 x∧Hid (∀y,1≤y→y < x→¬GenOK p m (lw ml) y)∧Ex w1 wr) (fun x' _=> q - (intOf x').toNat)
 case atStart=> exact ⟨1,by omega,by omega,rfl,hid_ (fun y a b=> by omega),Ex.refl _⟩
 case round=>
  obtain ⟨x,hx1,hx2,rfl,hall,hxr⟩:=hrel;have r0:=hxr.cell d0;have r1:=hxr.cell d1;have r2:=hxr.cell d2;by_cases hlt:x < q
  ·go_wp2_with fail
   refine (HPW.out x _ hlt (HMV.out.ex (e0.trans hxr))).mono ?_;rintro e w5 ⟨v,L,rfl,hend,hv,hx5⟩;have s0:=hx5.cell r0;have s1:=hx5.cell r1;have s2:=hx5.cell r2;have hLq:=HPE.out x L hend;obtain ⟨va,vc,rfl,v1,v2,v3⟩:=hv.open;have HV:=hid_ hv;have HG:=hid_ (HGEN.out x L hend);have hL1:=hend.1;rw [il_length] at *;obtain ⟨vb,vo,rfl,v4⟩:=v3 (by omega);have hxw:=hxr.trans hx5;unfold maxLen at v2;clear r0 r1 r2 v3 hv hend hxr hx5;have k1:IntKind.i64.wrap ((q:Int) - 1)=(q:Int) - 1:=IntWalk.i64_in _ (by omega);by_cases hLe:L=q - 1
   ·have hc:=v4 (q - 2) (pwI p m ml x (q - 2)) (il_get (by omega) _);have hb:((L:Int)==(q:Int) - 1)=true:=by simp;omega
    obtain ⟨y,hy⟩:∃y,kpw p m (lw ml) x (q - 2)=y:=⟨_,rfl⟩;have hyq:y < q:=by rw [←hy];exact HL.out x (q - 2)
    unfold pwI at hc;rw [hy] at hc;have HY:=hid_ (show kpw p m (lw ml) x (q - 1)=kmul p m (lw ml) y x by rw [show q - 1=(q - 2) + 1 by omega,HK.out,hy]);have k2:IntKind.i64.wrap ((q:Int) - 2)=(q:Int) - 2:=IntWalk.i64_in _ (by omega);have k3:((q:Int) - 2).toNat=q - 2:=by omega
    have k4:(0:Int)≤(q:Int) - 2:=by omega
    have k5:(q:Int) - 2 < (L:Int):=by omega
    have k6:(2:Int)≤(q:Int):=by omega
    have k7:(q:Int) < (L:Int) + 2:=by omega
    have k8:2≤q:=by omega
    have HLe:=hid_ hLe;clear v4 hy hLe;go_wp2_with fail
    go_region_held3 (fun w'=> w'.cell? ⟨xb,0,none⟩=some (.int .i64 p)∧w'.cell? ⟨xb,1,none⟩=some (.int .i64 m)∧w'.cell? ⟨xb,2,none⟩=some mv∧w'.cell? ⟨vb,vo + (q - 2),none⟩=some (.int .i64 y)∧Ex w1 w')
     (first | exact ⟨s0,s1,s2,hc,hxw.drew⟩ | exact ⟨hx6.cell s0,hx6.cell s1,hx6.cell s2,hx6.cell hc,hxw.drew.trans hx6⟩)
     ((go_at_call 168;refine (HM.out x y _ hyq hlt (HMV.out.ex ((e0.trans hxw).drew))).mono ?_;rintro e w6 ⟨rfl,hx6⟩))
    by_cases h1:kmul p m (lw ml) y x=1
    ·have hb1:(((kmul p m (lw ml) y x:Nat):Int)==1)=true:=by simp;omega
     have HGX:=hid_ (HG.out.2 ⟨HLe.out,by rw [HY.out];exact h1⟩);have HRES:=hid_ (show ISl w6 (.slice (some ⟨vb,vo,none⟩) L vc) (il (q - 1) (pwI p m ml x)) by
      have:=HV.out.ex ((Ex.refl _).drew.trans hx6)
      rwa [show il L (pwI p m ml x)=il (q - 1) (pwI p m ml x) by rw [HLe.out]] at this)
     clear h1;go_wp2_with fail
     go_ret;exact ⟨_,rfl,(HGO.out _ _).2 (.inl ⟨x,hx1,hlt,HGX.out,HRES.out⟩),e0.trans (hxw.drew.trans hx6)⟩
    ·have hb1:(((kmul p m (lw ml) y x:Nat):Int)==1)=false:=by simp;omega
     have HN:=hid_ (show ¬GenOK p m (lw ml) x from fun h=> h1 (by rw [←HY.out];exact (HG.out.1 h).2));clear h1;go_wp2_with fail
     go_roundw
     case rel=> exact ⟨x + 1,by omega,by omega,by go_num,hid_ (fun z a b=> by
      by_cases e:z=x
      ·subst e;exact HN.out
      ·exact hall.out z a (by omega)),hxw.drew.trans hx6⟩
     case measure=> simp [intOf];omega
   ·have hb:((L:Int)==(q:Int) - 1)=false:=by simp;omega
    have HN:=hid_ (show ¬GenOK p m (lw ml) x from fun h=> hLe (HG.out.1 h).1);clear hLe v4;go_wp2_with fail
    go_quiet (fail)
    go_wp2_with fail
    go_roundw
    case rel=> exact ⟨x + 1,by omega,by omega,by go_num,hid_ (fun y a b=> by
     by_cases e:y=x
     ·subst e;exact HN.out
     ·exact hall.out y a (by omega)),hxw.drewN _⟩
    case measure=> simp [intOf];omega
  ·obtain rfl:x=q:=by omega
   have HNO:=hid_ (show ¬IsF p m (lw ml) from fun h=> by
    obtain ⟨y,a,b,c⟩:=HIS.out.1 h;exact hall.out y a b c)
   go_wp2_with fail
   go_ret;exact ⟨_,rfl,(HGO.out _ _).2 (.inr ⟨HNO.out,rfl⟩),e0.trans hxr⟩
end
end Go.Proofs.YtgdmlmhpineibaaGreat
