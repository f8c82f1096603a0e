/- Walks of the reference of the package field: Mul. -/
import Derived.Test.YtgdmlmhpineibaaGreatZg01
import Derived.Test.YtgdmlmhpineibaaGreatZg03
import Derived.Test.YtgdmlmhpineibaaGreatZg07
namespace Go.Proofs.YtgdmlmhpineibaaGreat
set_option linter.unusedVariables false
set_option linter.unusedSimpArgs false
set_option maxRecDepth 100000
set_option maxHeartbeats 4000000
section
open Go.RowKit
theorem Own.pre {w:World} {base:Nat} {e:TypeId} {g n m:Nat} {f:Nat→Int} (h:Own w base e g n (iv f)) (hm:m≤n):ISl w (.slice (some ⟨g,0,none⟩) m n) (il m f):=by
 have hn:=h.le;refine ⟨by rw [ints_length];omega,some ⟨g,0,none⟩,n,by rw [il_length],by rw [il_length];exact hm,hn,fun _=> ⟨g,0,rfl,fun j u hu=> ?_⟩⟩;rw [ints_il] at hu;have hj:j < m:=by have:=(List.getElem?_eq_some_iff.1 hu).1;rwa [vs_length] at this
 rw [vs_get hj] at hu;injection hu with hu;rw [Nat.zero_add,←hu];exact h.cell (by omega)
section
variable {p m:Nat} {ml:List Int} {mv:Value}
def ConvE (p m:Nat) (ml:List Int) (n i j:Nat) (a b c:Vc):Prop:=EqM p (ap m (lw ml) n c one_) (fun t=> ap m (lw ml) i a b t + a i * sXn m (lw ml) i (ap m (lw ml) j b one_) t)
def RedE (p m:Nat) (ml:List Int) (i j:Nat) (c0 c:Vc):Prop:=EqM p (fun t=> ap m (lw ml) i c one_ t) (fun t=> ap m (lw ml) i c0 one_ t - c0 i * sXn m (lw ml) (i - m) (ap m (lw ml) j (lw ml) one_) t)
theorem rMul_any (w:World) (hf:FSh p m ml) (hmv:ISl w mv ml) (x y:Int):
  Calls Tryz.prog 60 #[.agg #[.int .i64 p,.int .i64 m,mv],.int .i64 x,.int .i64 y] w fun r w'=> r= .returned (.int .i64 (kmul p m (lw ml) (kin (p ^ m) x) (kin (p ^ m) y):Nat))∧Ex w w':=by
 obtain ⟨d0,d1,d2,e0,hsz⟩:=box_facts w p m mv;have HDX:=hid_ (fun w=> rDigits_any (mv:=mv) w hf x);have HDY:=hid_ (fun w=> rDigits_any (mv:=mv) w hf y);have HVL:=hid_ (fun w l v h1 h2 h3=> rValue_any (mv:=mv) w hf l v h1 h2 h3);have p2:=hf.p2;have m1:=hf.m1;have m8:=hf.m8;have p256:=hf.p256;have hq:=hf.q;have hlen:=hf.len;obtain ⟨am,cm,rfl,c1,c2,c3⟩:=(hmv.ex e0).open;have C3:=hid_ c3;have LEN:=hid_ hlen;unfold maxLen at c2;have HLR:=hid_ (show ∀j,0≤lw ml j∧lw ml j < p from fun j=> by
  unfold lw;rw [List.getD_eq_getElem?_getD];rcases h:ml[j]? with _ | z
  ·simp;omega
  ·exact hf.rng z (List.mem_of_getElem? h))
 generalize kin (p ^ m) x=z at *;generalize kin (p ^ m) y=t at *;have HXR:=hid_ (dig_rng (show 1≤p by omega) m z);have HYR:=hid_ (dig_rng (show 1≤p by omega) m t);have HSUP:=hid_ (dig_sup p m t);have HEND:=hid_ (fun c h1 h2=> red_end (p:=p) (m:=m) (low:=lw ml) (show 1≤p by omega) (x:=z) (y:=t) (c:=c) h1 h2);have HQ:=hid_ hq;obtain ⟨N,hN⟩:∃N,2 * m - 1=N:=⟨_,rfl⟩;have hN1:(2:Int) * m - 1=(N:Int):=by omega
 have hN2:N=2 * m - 1:=hN.symm;clear hf hmv hq c3 hlen hN;go_enter Tryz.func60,Tryz.ntmps60
 go_wp2_with fail
 generalize w.alloc (.cells #[.int .i64 p,.int .i64 m,.slice am ml.length cm] 24)=w1 at *;refine (HDX.out _).mono ?_;rintro e w2 ⟨v,rfl,⟨g,rfl,hg⟩,hx2⟩;have r0:=hx2.cell d0;have r1:=hx2.cell d1;have r2:=hx2.cell d2;go_wp2_with fail
 refine (HDY.out _).mono ?_;rintro e w3 ⟨v,rfl,⟨k,rfl,hk⟩,hx3⟩;have s0:=hx3.cell r0;have s1:=hx3.cell r1;have s2:=hx3.cell r2;have HG:=hid_ (hg.ex hx3);have HKO:=hid_ (hk.mono (show w1.heap.size≤w2.heap.size from hx2.size));have hx13:=hx2.trans hx3;have HE:=hid_ e0;have HN2:=hid_ hN2;clear r0 r1 r2 hg hk hx2 hx3 e0 hsz hN2;go_wp2_with (at_make;refine wpList_make_arr _ rfl _ _ 22 rfl 3 (.int .i64 0) 8 Tryz.underlying22 infoInt rfl _ N rfl rfl (by omega) (by have:=HN2.out;omega) (by have:=HN2.out;unfold maxLen;omega) ?_)
 intro w4 hown hx4;obtain ⟨h,hh⟩:∃h,w3.heap.size=h:=⟨_,rfl⟩;have hgh:g < h:=by rw [←hh];exact HG.out.lt.2
 have hkh:k < h:=by rw [←hh];exact HKO.out.lt.2
 have HOC:=hid_ (show Own w4 w1.heap.size 3 h N (iv fun _=> 0) by rw [←hh];exact hown.mono hx13.size);have HG4:=hid_ (HG.out.ex hx4);have HK4:=hid_ (HKO.out.ex hx4);have HH:=hid_ hh;have hx14:=hx13.trans hx4;have HCV:=hid_ (show ConvE p m ml N 0 0 (dig p m z) (dig p m t) (fun _=> 0) from conv_zero (m:=m) (low:=lw ml) p N _ _);have HCS:=hid_ (show ∀i j c,i + j < N→ConvE p m ml N i j (dig p m z) (dig p m t) c→ConvE p m ml N i (j + 1) (dig p m z) (dig p m t) (updI c (i + j) ((c (i + j) + dig p m z i * dig p m t j) % (p:Int))) from fun i j c h1 h2=> conv_step (m:=m) (low:=lw ml) h1 h2);have HCR:=hid_ (show ∀i c,ConvE p m ml N i m (dig p m z) (dig p m t) c→ConvE p m ml N (i + 1) 0 (dig p m z) (dig p m t) c from fun i c h1=> conv_row (m:=m) (low:=lw ml) HSUP.out h1);have q0:=hx14.cell d0;have q1:=hx14.cell d1;have q2:=hx14.cell d2;simp only [hh];clear hown hx13 hx4 HG HKO hh s0 s1 s2;go_wp2_with fail
 clear q0 q1 q2
 go_loopw [10,11] (fun i' _ wr=> ∃(i:Nat) (c:Nat→Int),i≤m∧i'= .int .i64 i∧Hid (Own wr w1.heap.size 3 h N (iv c))∧Hid (∀j,0≤c j∧c j < p)∧Hid (ConvE p m ml N i 0 (dig p m z) (dig p m t) c)∧Hid (Own wr w1.heap.size 3 g m (iv (dig p m z)))∧Hid (Own wr w1.heap.size 3 k m (iv (dig p m t)))∧Ex w1 wr) (fun i' _ _=> m - (intOf i').toNat)
 case atStart=> exact ⟨0,fun _=> 0,by omega,rfl,HOC,hid_ (fun j=> ⟨Int.le_refl 0,(by omega:(0:Int) < p)⟩),HCV,HG4,HK4,hx14⟩
 case round=>
  clear HOC HCV HG4 HK4 hx14;obtain ⟨i,c,hi,rfl,hoc,hcr,hcv,hga,hkb,hx⟩:=hrel;have q0:=hx.cell d0;have q1:=hx.cell d1;have q2:=hx.cell d2;by_cases hlt:i < m
  ·obtain ⟨wo,rfl⟩:∃wo:World,wo=wr:=⟨_,rfl⟩;go_wp2_with fail
   clear q0 q1 q2
   go_loopw [11] (fun j' wr=> ∃(j:Nat) (c:Nat→Int),j≤m∧j'= .int .i64 j∧Hid (Own wr w1.heap.size 3 h N (iv c))∧Hid (∀j,0≤c j∧c j < p)∧Hid (ConvE p m ml N i j (dig p m z) (dig p m t) c)∧Hid (Own wr w1.heap.size 3 g m (iv (dig p m z)))∧Hid (Own wr w1.heap.size 3 k m (iv (dig p m t)))∧Ex w1 wr) (fun j' _=> m - (intOf j').toNat)
   case atStart=> exact ⟨0,c,by omega,rfl,hoc,hcr,hcv,hga,hkb,hx⟩
   case round=>
    clear hoc hcr hcv hga hkb hx;obtain ⟨j,c,hj,rfl,hoc,hcr,hcv,hga,hkb,hx⟩:=hrel;have q0:=hx.cell d0;have q1:=hx.cell d1;have q2:=hx.cell d2;by_cases hlj:j < m
    ·have hij:i + j < N:=by have:=HN2.out;omega
     have hca:=hga.out.cell hlt;have hcb:=hkb.out.cell hlj;have hcc:=hoc.out.cell hij;have hcf:=hoc.out.frz (i + j);have HCV2:=hid_ (HCS.out i j c hij hcv.out);obtain ⟨a1,a2⟩:=HXR.out i;obtain ⟨b1,b2⟩:=HYR.out j;obtain ⟨e1,e2⟩:=hcr.out (i + j);have hva:wr.cell? ⟨g,i,none⟩=some (.int .i64 (dig p m z i)):=hca;have hvb:wr.cell? ⟨k,j,none⟩=some (.int .i64 (dig p m t j)):=hcb;have hvc:wr.cell? ⟨h,i + j,none⟩=some (.int .i64 (c (i + j))):=hcc;clear hca hcb hcc;generalize dig p m z i=u at *;generalize dig p m t j=v at *;have HCE:=hid_ (show ∀z,c (i + j)=z→True from fun _ _=> trivial);have e3:0≤u * v:=Int.mul_nonneg a1 b1;have e4:u * v≤65536:=by
      have:=Int.mul_le_mul (show u≤256 by omega) (show v≤256 by omega) (by omega) (by omega);omega
     obtain ⟨D,hD⟩:∃D,(c (i + j) + u * v) % (p:Int)=D:=⟨_,rfl⟩;have hD1:0≤D∧D < p:=by rw [←hD];exact ⟨Int.emod_nonneg _ (by omega),Int.emod_lt_of_pos _ (by omega)⟩
     rw [hD] at HCV2;have HSO:=hid_ (hoc.out.set (i + j) (.int .i64 D));have HSA:=hid_ (hga.out.other (a:=⟨h,i + j,none⟩) (Nat.ne_of_lt hgh) (.int .i64 D));have HSB:=hid_ (hkb.out.other (a:=⟨h,i + j,none⟩) (Nat.ne_of_lt hkh) (.int .i64 D));have HSX:=hid_ (hoc.out.exSet (Nat.le_refl _) hx (i + j) (.int .i64 D));have HRN:=hid_ (show ∀l,0≤upd c (i + j) D l∧upd c (i + j) D l < p from fun l=> by
      unfold upd;split
      ·exact hD1
      ·exact hcr.out l)
     have i1:IntKind.i64.wrap ((i:Int) + j)=(i:Int) + j:=IntWalk.i64_in _ (by omega);have i2:IntKind.i64.wrap (u * v)=u * v:=IntWalk.i64_in _ (by omega);have i3:IntKind.i64.wrap (c (i + j) + u * v)=c (i + j) + u * v:=IntWalk.i64_in _ (by omega);have i4:(c (i + j) + u * v).tmod (p:Int)=D:=by rw [Int.tmod_eq_emod_of_nonneg (by omega)];exact hD
     have i5:((i:Int) + j).toNat=i + j:=by omega
     have i6:(i:Int) + j < (N:Int):=by omega
     have i7:0≤(i:Int) + j:=by omega
     have p0:¬p=0:=by omega
     clear hD HCE;go_wp2_with fail
     go_still_tail 24,(by kernel_rfl)
     change wpList _ _ _ _ _ wr.drew
     go_wp2_with fail
     go_roundw
     case rel=> exact ⟨j + 1,upd c (i + j) D,by omega,by go_num,hid_ (by have:=HSO.out.drew;rwa [iv_upd] at this),HRN,HCV2,hid_ HSA.out.drew,hid_ HSB.out.drew,HSX.out.drew⟩
     case measure=> simp [intOf];omega
    ·obtain rfl:j=m:=by omega
     have HCV2:=hid_ (HCR.out i c hcv.out);go_wp2_with fail
     go_roundw
     case rel=> exact ⟨i + 1,c,by omega,by go_num,hoc,hcr,HCV2,hga,hkb,hx⟩
     case measure=> simp [intOf];omega
  ·obtain rfl:i=m:=by omega
   have HT:=hid_ (show EqM p (ap i (lw ml) N c one_) (ap i (lw ml) i (dig p i z) (dig p i t)) from fun s=> by
    rw [hcv.out s];have e:sXn i (lw ml) i (ap i (lw ml) 0 (dig p i t) one_) s=0:=by
     simp only [ap];rw [(sXn_lin i).zero]
    dsimp only;rw [e];simp)
   clear hcv hga hkb;have HRST:=hid_ (show ∀(a:Nat) (c:Nat→Int),RedE p i ml a 0 c c from fun a c=> red_start (m:=i) (low:=lw ml) p c);have HRSP:=hid_ (show ∀(a j:Nat) (c c0:Nat→Int),i≤a→j < i→RedE p i ml a j c0 c→c a=c0 a→RedE p i ml a (j + 1) c0 (updI c (a - i + j) ((c (a - i + j) + ((p:Int) - c a) * lw ml j) % (p:Int))) from fun a j c c0 h1 h2 h3 h4=> red_step (m:=i) (low:=lw ml) (T:=c0) h1 h2 h3 h4);have HRRW:=hid_ (show ∀(a:Nat) (c c0:Nat→Int) (T:Vc),i≤a→EqM p (ap i (lw ml) (a + 1) c0 one_) T→RedE p i ml a i c0 c→EqM p (ap i (lw ml) a c one_) T from fun a c c0 T h1 h2 h3=> red_row (m:=i) (low:=lw ml) m1 h1 h2 h3);go_wp2_with fail
   clear q0 q1 q2
   go_loopw [12,13] (fun i' _ wr=> ∃(a:Nat) (c:Nat→Int),i≤a∧a≤N∧i'= .int .i64 ((a:Int) - 1)∧Hid (Own wr w1.heap.size 3 h N (iv c))∧Hid (∀j,0≤c j∧c j < p)∧Hid (EqM p (ap i (lw ml) a c one_) (ap i (lw ml) i (dig p i z) (dig p i t)))∧Ex w1 wr) (fun i' _ _=> (intOf i' + 1).toNat)
   case atStart=> exact ⟨N,c,by have:=HN2.out;omega,Nat.le_refl _,by rw [show (2:Int) * i - 2=(N:Int) - 1 by omega],hoc,hcr,HT,hx⟩
   case round=>
    clear hoc hcr HT hx;obtain ⟨a,c,ha1,ha2,rfl,hoc,hcr,hT,hx⟩:=hrel;have q0:=hx.cell d0;have q1:=hx.cell d1;have q2:=hx.cell d2;by_cases hai:i < a
    ·obtain ⟨b,rfl⟩:∃b,a=b + 1:=⟨a - 1,by omega⟩;have eb:(((b + 1:Nat)):Int) - 1=b:=by omega
     rw [eb];have hib:i≤b:=by omega
     have hbi:(i:Int)≤(b:Int):=by omega
     clear eb hai;obtain ⟨wo,rfl⟩:∃wo:World,wo=wr:=⟨_,rfl⟩;have HR0:=hid_ (HRST.out b c);go_wp2_with fail
     clear q0 q1 q2
     go_loopw [13] (fun j' wr=> ∃(j:Nat) (c':Nat→Int),j≤i∧j'= .int .i64 j∧Hid (Own wr w1.heap.size 3 h N (iv c'))∧Hid (∀j,0≤c' j∧c' j < p)∧Hid (RedE p i ml b j c c')∧Hid (c' b=c b)∧Ex w1 wr) (fun j' _=> i - (intOf j').toNat)
     case atStart=> exact ⟨0,c,by omega,rfl,hoc,hcr,HR0,hid_ rfl,hx⟩
     case round=>
      clear hoc hcr hx HR0;obtain ⟨j,c',hj,rfl,hoc,hcr,hre,hcb,hx⟩:=hrel;have q0:=hx.cell d0;have q1:=hx.cell d1;have q2:=hx.cell d2;by_cases hlj:j < i
      ·have hml:ml.length=i:=by
        have:=LEN.out;rw [if_neg (by have:=HN2.out;omega)] at this;exact this
       obtain ⟨bb,oo,rfl,hcm⟩:=C3.out (by omega);have hm0:=hx.cell (hcm j (lw ml j) (by unfold lw;rw [List.getD_eq_getElem?_getD,List.getElem?_eq_getElem (by omega)];rfl));have HCV2:=hid_ (HRSP.out b j c' c hib hlj hre.out hcb.out);have hbN:b < N:=by omega
       have hjN:b - i + j < N:=by omega
       have hjb:b - i + j≠b:=by omega
       have hvb:wr.cell? ⟨h,b,none⟩=some (.int .i64 (c' b)):=hoc.out.cell hbN;have hvj:wr.cell? ⟨h,b - i + j,none⟩=some (.int .i64 (c' (b - i + j))):=hoc.out.cell hjN;have hvf:=hoc.out.frz (b - i + j);obtain ⟨u1,u2⟩:=hcr.out b;obtain ⟨v1,v2⟩:=hcr.out (b - i + j);obtain ⟨l1,l2⟩:=HLR.out j;have hjl:j < ml.length:=by omega
       obtain ⟨D,hD⟩:∃D,(c' (b - i + j) + ((p:Int) - c' b) * lw ml j) % (p:Int)=D:=⟨_,rfl⟩;have hD1:0≤D∧D < p:=by rw [←hD];exact ⟨Int.emod_nonneg _ (by omega),Int.emod_lt_of_pos _ (by omega)⟩
       rw [hD] at HCV2;have HSO:=hid_ (hoc.out.set (b - i + j) (.int .i64 D));have HSX:=hid_ (hoc.out.exSet (Nat.le_refl _) hx (b - i + j) (.int .i64 D));have HRN:=hid_ (show ∀l,0≤upd c' (b - i + j) D l∧upd c' (b - i + j) D l < p from fun l=> by
        unfold upd;split
        ·exact hD1
        ·exact hcr.out l)
       have HCB:=hid_ (show upd c' (b - i + j) D b=c b by rw [upd_ne _ _ (Ne.symm hjb)];exact hcb.out);generalize lw ml j=lj at *;have e3:0≤((p:Int) - c' b) * lj:=Int.mul_nonneg (by omega) l1;have e4:((p:Int) - c' b) * lj≤65536:=by
        have:=Int.mul_le_mul (show (p:Int) - c' b≤256 by omega) (show lj≤256 by omega) l1 (by omega);omega
       have i1:IntKind.i64.wrap ((b:Int) - i)=(b:Int) - i:=IntWalk.i64_in _ (by omega);have i2:IntKind.i64.wrap ((b:Int) - i + j)=(b:Int) - i + j:=IntWalk.i64_in _ (by omega);have i3:IntKind.i64.wrap ((p:Int) - c' b)=(p:Int) - c' b:=IntWalk.i64_in _ (by omega);have i4:IntKind.i64.wrap (((p:Int) - c' b) * lj)=((p:Int) - c' b) * lj:=IntWalk.i64_in _ (by omega);have i5:IntKind.i64.wrap (c' (b - i + j) + ((p:Int) - c' b) * lj)=c' (b - i + j) + ((p:Int) - c' b) * lj:=IntWalk.i64_in _ (by omega);have i6:(c' (b - i + j) + ((p:Int) - c' b) * lj).tmod (p:Int)=D:=by rw [Int.tmod_eq_emod_of_nonneg (by omega)];exact hD
       have i7:((b:Int) - i + j).toNat=b - i + j:=by omega
       have i8:0≤(b:Int) - i + j:=by omega
       have i9:(b:Int) - i + j < (N:Int):=by omega
       have p0:¬p=0:=by omega
       clear hD hcm hjb hml;go_wp2_with fail
       go_still_tail 34,(by kernel_rfl)
       change wpList _ _ _ _ _ wr.drew
       go_wp2_with fail
       go_roundw
       case rel=> exact ⟨j + 1,upd c' (b - i + j) D,by omega,by go_num,hid_ (by have:=HSO.out.drew;rwa [iv_upd] at this),HRN,HCV2,HCB,HSX.out.drew⟩
       case measure=> simp [intOf];omega
      ·obtain rfl:j=i:=by omega
       have HT2:=hid_ (HRRW.out b c' c _ hib hT.out hre.out);go_wp2_with fail
       go_roundw
       case rel=> exact ⟨b,c',hib,by omega,rfl,hoc,hcr,HT2,hx⟩
       case measure=> simp [intOf]
    ·obtain rfl:a=i:=by omega
     have HL:=hid_ (hoc.out.pre (show a≤N by omega));have HB:=hid_ (show ∀e∈il a c,0≤e∧e < p from fun e he=> by
      obtain ⟨j,_,rfl⟩:=il_mem he;exact hcr.out j)
     have HQ2:=hid_ (show p ^ (il a c).length≤65536 by rw [il_length];have:=HQ.out;omega);have HR:=hid_ (show vl p (il a c)=((kmul p a (lw ml) z t:Nat):Int) by rw [vl_il];exact HEND.out c (fun j _=> hcr.out j) hT.out);clear hoc hcr hT;have i1:(0:Int)≤(a:Int):=by omega
     have i2:(a:Int)≤(N:Int):=by omega
     go_wp2_with fail
     go_still_tail 5,(by kernel_rfl)
     change wpList _ _ _ _ _ wr.drew
     go_wp2_with fail
     refine (HVL.out _ _ _ (HL.out.ex (Ex.refl _).drew) HB.out HQ2.out).mono ?_;rintro e w9 ⟨rfl,hx9⟩;go_wp2_with fail
     go_ret;exact ⟨ret_int HR.out,(HE.out.trans hx.drew).trans hx9⟩
end
end
section
open Go.RowKit
section
variable {p m:Nat} {ml:List Int} {mv:Value}
theorem kinv_none {z:Nat} (h:∀y,1≤y→y < p ^ m→kmul p m (lw ml) z y≠1):kinv p m ml z=0:=by
 unfold kinv;rcases hf:(List.range (p ^ m)).find? (fun y=> decide (1≤y) && kmul p m (lw ml) z y==1) with _ | i
 ·rfl
 ·exfalso;have h1:=List.find?_some hf;have h2:=List.mem_range.1 (List.mem_of_find?_eq_some hf);simp at h1;exact h i h1.1 h2 h1.2
theorem kinv_first {z y:Nat} (h1:1≤y) (h2:y < p ^ m) (h3:kmul p m (lw ml) z y=1) (h:∀c,1≤c→c < y→kmul p m (lw ml) z c≠1):kinv p m ml z=y:=by
 unfold kinv;rcases hf:(List.range (p ^ m)).find? (fun y=> decide (1≤y) && kmul p m (lw ml) z y==1) with _ | i
 ·exfalso;have:=List.find?_eq_none.1 hf y (List.mem_range.2 h2);simp [h1,h3] at this
 ·have k1:=List.find?_some hf;simp at k1;rcases Nat.lt_trichotomy i y with e | e | e
  ·exact absurd k1.2 (h i k1.1 e)
  ·exact e
  ·exfalso;have:=List.not_of_lt_findIdx (p:=fun y=> decide (1≤y) && kmul p m (lw ml) z y==1) (xs:=List.range (p ^ m)) (i:=y) (by
    rcases Nat.lt_or_ge y (List.findIdx (fun y=> decide (1≤y) && kmul p m (lw ml) z y==1) (List.range (p ^ m))) with a | a
    ·exact a
    ·exfalso;have hk:List.findIdx (fun y=> decide (1≤y) && kmul p m (lw ml) z y==1) (List.range (p ^ m)) < (List.range (p ^ m)).length:=by simp;omega
     have hq:=List.find?_eq_some_iff_getElem.1 hf;obtain ⟨_,j,hj,e1,e2⟩:=hq;simp at e1;subst e1;have:=e2 y (by omega);simp [h1,h3] at this)
   simp [h1,h3] at this
theorem rInv_any (w:World) (hf:FSh p m ml) (hmv:ISl w mv ml) (x:Int):
  Calls Tryz.prog 41 #[.agg #[.int .i64 p,.int .i64 m,mv],.int .i64 x] w fun r w'=> r= .returned (.int .i64 (kinv p m ml (kin (p ^ m) x):Nat))∧Ex w w':=by
 obtain ⟨d0,d1,d2,e0,hsz⟩:=box_facts w p m mv;have hor:=hf.ord;have hq:=hf.q;have HOR:=hid_ (fun w=> by have:=rOrder_any p m mv w;rw [hor] at this;exact this);have HM:=hid_ (fun w y (h:ISl w mv ml)=> rMul_any w hf h x y);have HMV:=hid_ hmv;have HN:=hid_ (kinv_none (p:=p) (m:=m) (ml:=ml) (z:=kin (p ^ m) x));have HF:=hid_ (fun y h1 h2 h3 h=> kinv_first (p:=p) (m:=m) (ml:=ml) (z:=kin (p ^ m) x) (y:=y) h1 h2 h3 h);have HKI:=hid_ (fun y (h:y < p ^ m)=> kin_of h);generalize kin (p ^ m) x=z at *;obtain ⟨q,hqq⟩:∃q,p ^ m=q:=⟨_,rfl⟩;simp only [hqq] at hq HOR HM HN HF HKI;clear hf hmv hqq hor hsz;go_enter Tryz.func41,Tryz.ntmps41
 go_wp2_with fail
 generalize w.alloc (.cells #[.int .i64 p,.int .i64 m,mv] 24)=w1 at *
 go_loopw [5] (fun y' wr=> ∃y:Nat,1≤y∧y'= .int .i64 y∧Hid (∀c,1≤c→c < y→kmul p m (lw ml) z c≠1)∧y≤300∧Ex w1 wr) (fun y' _=> 300 - (intOf y').toNat)
 case atStart=> exact ⟨1,by omega,rfl,hid_ (fun c a b=> by omega),by omega,Ex.refl _⟩
 case round=>
  obtain ⟨y,hy,rfl,hall,hy3,hx⟩:=hrel;have r0:=hx.cell d0;have r1:=hx.cell d1;have r2:=hx.cell d2;go_wp2_with fail
  refine (HOR.out _).mono ?_;rintro e w2 ⟨rfl,hx2⟩;have s0:=hx2.cell r0;have s1:=hx2.cell r1;have s2:=hx2.cell r2;by_cases hlt:y < q
  ·go_wp2_with fail
   refine (HM.out _ _ (HMV.out.ex (e0.trans (hx.trans hx2)))).mono ?_;rw [HKI.out y hlt];rintro e w3 ⟨rfl,hx3⟩;by_cases h1:kmul p m (lw ml) z y=1
   ·have hb:(((kmul p m (lw ml) z y:Nat):Int)==1)=true:=by simp;omega
    have HR:=hid_ (HF.out y hy hlt h1 hall.out);clear h1;generalize kmul p m (lw ml) z y=kz at *;go_wp2_with fail
    go_ret;exact ⟨ret_int (by rw [HR.out]),e0.trans ((hx.trans hx2).trans hx3)⟩
   ·have hb:(((kmul p m (lw ml) z y:Nat):Int)==1)=false:=by simp;omega
    have HA:=hid_ (show ∀c,1≤c→c < y + 1→kmul p m (lw ml) z c≠1 from fun c a b=> by
     by_cases e:c=y
     ·subst e;exact h1
     ·exact hall.out c a (by omega))
    clear h1;generalize kmul p m (lw ml) z y=kz at *;go_wp2_with fail
    go_roundw
    case rel=> exact ⟨y + 1,by omega,by go_num,HA,by omega,(hx.trans hx2).trans hx3⟩
    case measure=> simp [intOf];omega
  ·have HR:=hid_ (HN.out fun c a b=> hall.out c a (by omega));go_wp2_with fail
   go_ret;exact ⟨ret_int (by rw [HR.out];rfl),e0.trans (hx.trans hx2)⟩
end
end
section
open Go.RowKit
def OwnC (w:World) (base:Nat) (e:TypeId) (g n cap:Nat) (c:Nat→Value):Prop:=w.ownsRow base e 1 (.slice (some ⟨g,0,none⟩) n cap) n (vs n c)
section
variable {w:World} {base:Nat} {e:TypeId} {g n cap:Nat} {c:Nat→Value}
theorem OwnC.cell (h:OwnC w base e g n cap c) {j:Nat} (hj:j < n):w.cell? ⟨g,j,none⟩=some (c j):=by
 rw [World.ownsRow.cellAt h j (by omega),vs_get hj]
theorem OwnC.frz (h:OwnC w base e g n cap c) (j:Nat):w.frozen? ⟨g,j,none⟩=false:=World.ownsRow.frozenAt h j
theorem OwnC.set (h:OwnC w base e g n cap c) (j:Nat) (u:Value):OwnC (w.setCell ⟨g,j,none⟩ u) base e g n cap (upd c j u):=by
 have:=(World.ownsRow.stored h j u).1
 rwa [vs_set] at this
theorem OwnC.congr {d:Nat→Value} (h:OwnC w base e g n cap c) (hc:∀j,j < n→c j=d j):OwnC w base e g n cap d:=by
 unfold OwnC at *
 rwa [vs_congr hc] at h
theorem OwnC.icongr {f k:Nat→Int} (h:OwnC w base e g n cap (iv f)) (hc:∀j,j < n→f j=k j):OwnC w base e g n cap (iv k):=
 h.congr fun j hj=> congrArg (Value.int .i64) (hc j hj)
theorem OwnC.ex {w':World} (h:OwnC w base e g n cap c) (hx:Ex w w'):OwnC w' base e g n cap c:=ownsRow_ex h hx
theorem OwnC.drew (h:OwnC w base e g n cap c):OwnC w.drew base e g n cap c:=h
theorem OwnC.drewN (h:OwnC w base e g n cap c) (k:Nat):OwnC (w.drewN k) base e g n cap c:=h.ex ((Ex.refl w).drewN k)
theorem OwnC.lt (h:OwnC w base e g n cap c):base≤g∧g < w.heap.size:=World.ownsRow.lt h g rfl
theorem OwnC.caps (h:OwnC w base e g n cap c):n≤cap∧cap≤maxLen:=by
 rcases h.2 with ⟨h',_⟩ | ⟨g',cap',cur,h',_,hg,h1,h2,_⟩
 ·simp at h'
 ·simp only [Value.slice.injEq,Option.some.injEq,Addr.mk.injEq,and_true,true_and] at h';obtain ⟨_,rfl⟩:=h';exact ⟨h1,h2⟩
theorem OwnC.other (h:OwnC w base e g n cap c) {a:Addr} (ha:g≠a.block) (u:Value):OwnC (w.setCell a u) base e g n cap c:=
 ownsRow_setCell_ne h (fun e=> ha (by simpa [Value.ownBlock] using e)) u
theorem OwnC.exSet {a:World} (h:OwnC w base e g n cap c) (hb:a.heap.size≤base) (hx:Ex a w) (j:Nat) (u:Value):Ex a (w.setCell ⟨g,j,none⟩ u):=
 hx.setCell (p:=⟨g,j,none⟩) (Nat.le_trans hb h.lt.1) u
theorem OwnC.sl (h:OwnC w base e g n cap c):Sl w (.slice (some ⟨g,0,none⟩) n cap) n 1 (vs n c):=Sl.own h
theorem OwnC.isl {f:Nat→Int} (h:OwnC w base e g n cap (iv f)):ISl w (.slice (some ⟨g,0,none⟩) n cap) (il n f):=by
 unfold ISl;rw [il_length,ints_il];exact h.sl
theorem ownC_of {v:Value} (h:w.ownsRow base e 1 v n (vs n c)) (hn:1≤n):∃g cap,v= .slice (some ⟨g,0,none⟩) n cap∧OwnC w base e g n cap c:=by
 rcases h.2 with ⟨_,h0⟩ | ⟨g,cap,cur,rfl,_⟩
 ·omega
 ·exact ⟨g,cap,rfl,h⟩
end
end
end Go.Proofs.YtgdmlmhpineibaaGreat
