/- Walks of the reference of the package field: divides. -/
import Derived.Test.YtgdmlmhpineibaaGreatZg08
namespace Go.Proofs.YtgdmlmhpineibaaGreat
set_option linter.unusedVariables false
set_option linter.unusedSimpArgs false
set_option maxRecDepth 100000
set_option maxHeartbeats 4000000
section
open Go.RowKit
def mon (ml:List Int):Vc:=fun j=> if j < ml.length then ml.getD j 0 else if j=ml.length then 1 else 0
def dvB (p d:Nat) (low:Vc) (ml:List Int):Bool:=(List.range d).all fun j=> ap d low (ml.length + 1) (mon ml) one_ j % (p:Int)==0
def RdE (p d:Nat) (low:Vc) (i j:Nat) (c0 c:Vc):Prop:=EqM p (fun t=> ap d low i c one_ t) (fun t=> ap d low i c0 one_ t - c0 i * sXn d low (i - d) (ap d low j low one_) t)
theorem dv_end {p d:Nat} {low:Vc} {ml:List Int} {c:Vc} (hc:∀j,0≤c j∧c j < p) (h:EqM p (ap d low d c one_) (ap d low (ml.length + 1) (mon ml) one_)):
  dvB p d low ml=(List.range d).all fun j=> c j==0:=by
 unfold dvB;rw [Bool.eq_iff_iff,List.all_eq_true,List.all_eq_true];have key:∀j,j < d→ap d low (ml.length + 1) (mon ml) one_ j % (p:Int)=c j:=fun j hj=> by
  rw [←h j,ap_one d c (Nat.le_refl _)];dsimp only;rw [if_pos hj];exact Int.emod_eq_of_lt (hc j).1 (hc j).2
 constructor
 ·intro h1 j hj;have:=h1 j hj
  rwa [key j (List.mem_range.1 hj)] at this
 ·intro h1 j hj;have:=h1 j hj
  rwa [key j (List.mem_range.1 hj)]
theorem mon_ints (ml:List Int):ints ml ++ [.int .i64 1]=vs (ml.length + 1) (iv (mon ml)):=by
 apply List.ext_getElem?;intro j;by_cases h1:j < ml.length
 ·rw [List.getElem?_append_left (by rw [ints_length];exact h1),vs_get (by omega)];unfold iv mon;rw [if_pos h1];simp [ints,h1,List.getD_eq_getElem?_getD]
 ·rw [List.getElem?_append_right (by rw [ints_length];omega),ints_length];by_cases h2:j=ml.length
  ·subst h2;rw [vs_get (by omega)];unfold iv mon;simp
  ·rw [show (vs (ml.length + 1) (iv (mon ml)))[j]?=none by rw [List.getElem?_eq_none_iff,vs_length];omega];rw [List.getElem?_eq_none_iff];simp;omega
theorem divides_any (p d:Nat) (low:Vc) (ml:List Int) (lv mv:Value) (w:World) (hp:2≤p) (hp':p≤256) (hd:1≤d) (hdm:d≤ml.length) (hm8:ml.length≤8)
  (hlv:ISl w lv (il d low)) (hlr:∀j,0≤low j∧low j < p) (hmv:ISl w mv ml) (hmr:∀x∈ml,0≤x∧x < p):
  Calls Tryz.prog 142 #[lv,mv,.int .i64 p] w fun r w'=> r= .returned (.bool (dvB p d low ml))∧Ex w w':=by
 obtain ⟨la,lc,rfl,l1,l2,l3⟩:=hlv.open;rw [il_length] at *;obtain ⟨lb,lo,rfl,l4⟩:=l3 (by omega);have L4:=hid_ (fun j (hj:j < d)=> l4 j _ (il_get hj low));have HMV:=hid_ hmv;have HMON:=hid_ (show ∀j,0≤mon ml j∧mon ml j < p from fun j=> by
  unfold mon;split
  ·rename_i h;rw [List.getD_eq_getElem?_getD,List.getElem?_eq_getElem h];exact hmr _ (List.getElem_mem h)
  ·split <;> omega)
 have HDE:=hid_ (fun c h1 h2=> dv_end (p:=p) (d:=d) (low:=low) (ml:=ml) (c:=c) h1 h2);have HMI:=hid_ (mon_ints ml);have HLR:=hid_ hlr;have hmi:∀u∈ints ml,u.oneCell'=true:=by
  intro u hu;obtain ⟨z,_,rfl⟩:=List.mem_map.1 hu;rfl
 have HON:=hid_ hmi;unfold maxLen at l2;clear hlv hmv hmr l3 l4 hlr hmi;go_enter Tryz.func142,Tryz.ntmps142
 go_wp2_with (at_builtin;refine wpList_append_sl _ rfl _ _ 22 rfl w.heap.size 3 (.int .i64 0) 1 8 Tryz.underlying22 infoInt rfl (by decide) _ 0 [] rfl (own_lit0 w 3) mv ml.length (ints ml) rfl (HMV.out.ex ((Ex.refl w).alloc _)) HON.out (by unfold maxLen;omega) (by omega) (by simp) ?_)
 intro v1 w1 hown1 hg1 ha1;have hx1:Ex w w1:=Ex.grown ((Ex.refl w).alloc _) (own_lit0 w 3) (Nat.le_refl _) hg1;obtain ⟨va,vc,rfl⟩:=own_shape hown1;have HX1:=hid_ hx1;have HO1:=hid_ hown1;have HB1:=hid_ hx1.size;clear hg1 ha1 hown1 hx1;go_wp2_with (at_builtin;refine wpList_append1 _ rfl _ _ 22 rfl w.heap.size 3 (.int .i64 0) 1 8 Tryz.underlying22 infoInt rfl (by decide) _ ml.length _ rfl HO1.out [.int .i64 1] 3 _ rfl (by simp) rfl (by simp [Value.oneCell']) (by unfold maxLen;omega) (by omega) HB1.out ?_)
 intro v2 w2 happ;have hown2:=happ.own;rw [HMI.out] at hown2;obtain ⟨g,cap,rfl,hown⟩:=ownC_of hown2 (by omega);have hx2:=happ.ex HX1.out (Nat.le_refl _);have hcap:=hown.caps;obtain ⟨k1,k2⟩:=hcap;unfold maxLen at k2;have HOW:=hid_ hown;have HTOP:=hid_ (show ∀j,ml.length + 1≤j→j < ml.length + 1→mon ml j=0 from fun j a b=> by omega);have HRST:=hid_ (show ∀(a:Nat) (c:Nat→Int),RdE p d low a 0 c c from fun a c=> red_start (m:=d) (low:=low) p c);have HRSP:=hid_ (show ∀(a j:Nat) (c c0:Nat→Int),d≤a→j < d→RdE p d low a j c0 c→c a=c0 a→RdE p d low a (j + 1) c0 (updI c (a - d + j) ((c (a - d + j) + ((p:Int) - c a) * low j) % (p:Int))) from fun a j c c0 h1 h2 h3 h4=> red_step (m:=d) (low:=low) (T:=c0) h1 h2 h3 h4);have HRRW:=hid_ (show ∀(a:Nat) (c c0:Nat→Int) (T:Vc),d≤a→EqM p (ap d low (a + 1) c0 one_) T→RdE p d low a d c0 c→EqM p (ap d low a c one_) T from fun a c c0 T h1 h2 h3=> red_row (m:=d) (low:=low) hd h1 h2 h3);have HUG:=hid_ (show ∀(a:Nat) (c:Nat→Int) v,ap d low a (updI c a v) one_=ap d low a c one_ from fun a c v=> ap_upd_ge (Nat.le_refl _));obtain ⟨T,hTT⟩:∃T,ap d low (ml.length + 1) (mon ml) one_=T:=⟨_,rfl⟩;rw [hTT] at HDE;have HI0:=hid_ (show EqM p (ap d low (ml.length + 1) (mon ml) one_) T by rw [hTT];exact EqM.refl _ _);clear hTT;clear happ hown2 hown HX1 HO1 HB1;go_wp2_with fail
 go_loopw [9,10,11] (fun i' _ _ wr=> ∃(a:Nat) (c:Nat→Int),d≤a∧a≤ml.length + 1∧i'= .int .i64 ((a:Int) - 1)∧Hid (OwnC wr w.heap.size 3 g (ml.length + 1) cap (iv c))∧Hid (∀j,0≤c j∧c j < p)∧Hid (EqM p (ap d low a c one_) T)∧Hid (∀j,a≤j→j < ml.length + 1→c j=0)∧Ex w wr) (fun i' _ _ _=> (intOf i' + 1).toNat)
 case atStart=> exact ⟨ml.length + 1,mon ml,by omega,by omega,by go_num,HOW,HMON,HI0,HTOP,hx2⟩
 case round=>
  clear HOW HI0 HTOP hx2;obtain ⟨a,c,ha1,ha2,rfl,hoc,hcr,hT,hz,hx⟩:=hrel;by_cases hai:d < a
  ·obtain ⟨b,rfl⟩:∃b,a=b + 1:=⟨a - 1,by omega⟩;have eb:(((b + 1:Nat)):Int) - 1=b:=by omega
   rw [eb];have hdb:d≤b:=by omega
   have hdb':(d:Int)≤(b:Int):=by omega
   have hbM:b < ml.length + 1:=by omega
   have hvb0:wr.cell? ⟨g,b,none⟩=some (.int .i64 (c b)):=hoc.out.cell hbM;clear eb hai;obtain ⟨wo,rfl⟩:∃wo:World,wo=wr:=⟨_,rfl⟩;have HR0:=hid_ (HRST.out b c);go_wp2_with fail
   clear hvb0
   go_loopw [11] (fun j' wr=> ∃(j:Nat) (c':Nat→Int),j≤d∧j'= .int .i64 j∧Hid (OwnC wr w.heap.size 3 g (ml.length + 1) cap (iv c'))∧Hid (∀j,0≤c' j∧c' j < p)∧Hid (RdE p d low b j c c')∧Hid (∀l,b≤l→c' l=c l)∧Ex w wr) (fun j' _=> d - (intOf j').toNat)
   case atStart=> exact ⟨0,c,by omega,rfl,hoc,hcr,HR0,hid_ (fun l _=> rfl),hx⟩
   case round=>
    clear hoc hx HR0;obtain ⟨j,c',hj,rfl,hoc,hcr',hre,hcb,hx⟩:=hrel;by_cases hlj:j < d
    ·have hlw:=hx.cell (L4.out j hlj);have HCV2:=hid_ (HRSP.out b j c' c hdb hlj hre.out (hcb.out b (Nat.le_refl _)));have hjN:b - d + j < ml.length + 1:=by omega
     have hjb:b - d + j < b:=by omega
     have hvj:wr.cell? ⟨g,b - d + j,none⟩=some (.int .i64 (c' (b - d + j))):=hoc.out.cell hjN;have hvf:=hoc.out.frz (b - d + j);have hcbb:=hcb.out b (Nat.le_refl _);rw [hcbb] at HCV2;obtain ⟨u1,u2⟩:=hcr.out b;obtain ⟨v1,v2⟩:=hcr'.out (b - d + j);obtain ⟨q1,q2⟩:=HLR.out j;obtain ⟨D,hD⟩:∃D,(c' (b - d + j) + ((p:Int) - c b) * low j) % (p:Int)=D:=⟨_,rfl⟩;have hD1:0≤D∧D < p:=by rw [←hD];exact ⟨Int.emod_nonneg _ (by omega),Int.emod_lt_of_pos _ (by omega)⟩
     rw [hD] at HCV2;have HSO:=hid_ (hoc.out.set (b - d + j) (.int .i64 D));have HSX:=hid_ (hoc.out.exSet (Nat.le_refl _) hx (b - d + j) (.int .i64 D));have HRN:=hid_ (show ∀l,0≤upd c' (b - d + j) D l∧upd c' (b - d + j) D l < p from fun l=> by
      unfold upd;split
      ·exact hD1
      ·exact hcr'.out l)
     have HCB:=hid_ (show ∀l,b≤l→upd c' (b - d + j) D l=c l from fun l hl=> by rw [upd_ne _ _ (by omega)];exact hcb.out l hl);generalize low j=lj at *;generalize c b=cb at *;have e3:0≤((p:Int) - cb) * lj:=Int.mul_nonneg (by omega) q1;have e4:((p:Int) - cb) * lj≤65536:=by
      have:=Int.mul_le_mul (show (p:Int) - cb≤256 by omega) (show lj≤256 by omega) q1 (by omega);omega
     have i1:IntKind.i64.wrap ((b:Int) - d)=(b:Int) - d:=IntWalk.i64_in _ (by omega);have i2:IntKind.i64.wrap ((b:Int) - d + j)=(b:Int) - d + j:=IntWalk.i64_in _ (by omega);have i3:IntKind.i64.wrap ((p:Int) - cb)=(p:Int) - cb:=IntWalk.i64_in _ (by omega);have i4:IntKind.i64.wrap (((p:Int) - cb) * lj)=((p:Int) - cb) * lj:=IntWalk.i64_in _ (by omega);have i5:IntKind.i64.wrap (c' (b - d + j) + ((p:Int) - cb) * lj)=c' (b - d + j) + ((p:Int) - cb) * lj:=IntWalk.i64_in _ (by omega);have i6:(c' (b - d + j) + ((p:Int) - cb) * lj).tmod (p:Int)=D:=by rw [Int.tmod_eq_emod_of_nonneg (by omega)];exact hD
     have i7:((b:Int) - d + j).toNat=b - d + j:=by omega
     have i8:0≤(b:Int) - d + j:=by omega
     have i9:(b:Int) - d + j < (ml.length:Int) + 1:=by omega
     have p0:¬p=0:=by omega
     clear hD hjb hcbb;go_wp2_with fail
     go_still_tail 26,(by kernel_rfl)
     change wpList _ _ _ _ _ wr.drew
     go_wp2_with fail
     go_roundw
     case rel=> exact ⟨j + 1,upd c' (b - d + j) D,by omega,by go_num,hid_ (by have:=HSO.out.drew;rwa [iv_upd] at this),HRN,HCV2,HCB,HSX.out.drew⟩
     case measure=> simp [intOf];omega
    ·obtain rfl:j=d:=by omega
     have HT2:=hid_ (HRRW.out b c' c _ hdb hT.out hre.out);have hvf:=hoc.out.frz b;have hvb:=hoc.out.cell hbM;have HSO:=hid_ (hoc.out.set b (.int .i64 0));have HSX:=hid_ (hoc.out.exSet (Nat.le_refl _) hx b (.int .i64 0));have HRN:=hid_ (show ∀l,0≤upd c' b 0 l∧upd c' b 0 l < p from fun l=> by
      unfold upd;split
      ·omega
      ·exact hcr'.out l)
     have HT3:=hid_ (show EqM p (ap j low b (upd c' b 0) one_) T from by
      have e:=HUG.out b c' 0;show EqM p (ap j low b (updI c' b 0) one_) T
      rw [e];exact HT2.out)
     have HZ:=hid_ (show ∀l,b≤l→l < ml.length + 1→upd c' b 0 l=0 from fun l h1 h2=> by
      by_cases e:l=b
      ·subst e;exact upd_same _ _ _
      ·rw [upd_ne _ _ e,hcb.out l h1];exact hz.out l (by omega) h2)
     go_wp2_with fail
     go_roundw
     case rel=> exact ⟨b,upd c' b 0,hdb,by omega,rfl,hid_ (by have:=HSO.out;rwa [iv_upd] at this),HRN,HT3,HZ,HSX.out⟩
     case measure=> simp [intOf]
  ·obtain rfl:a=d:=by omega
   have HFIN:=hid_ (HDE.out c hcr.out hT.out);go_wp2_with fail
   go_loopw [12] (fun i' wr=> ∃i:Nat,i≤ml.length + 1∧i'= .int .i64 i∧Hid (∀j,j < i→c j=0)∧Hid (OwnC wr w.heap.size 3 g (ml.length + 1) cap (iv c))∧Ex w wr) (fun i' _=> ml.length + 1 - (intOf i').toNat)
   case atStart=> exact ⟨0,by omega,rfl,hid_ (fun j h=> by omega),hoc,hx⟩
   case round=>
    clear hoc hx;obtain ⟨i,hi,rfl,hall,hoc,hx⟩:=hrel;by_cases hlt:i < ml.length + 1
    ·have hvi:wr.cell? ⟨g,i,none⟩=some (.int .i64 (c i)):=hoc.out.cell hlt;by_cases h0:c i=0
     ·have hvi':wr.cell? ⟨g,i,none⟩=some (.int .i64 0):=by rw [hvi,h0]
      have HA:=hid_ (show ∀j,j < i + 1→c j=0 from fun j hj=> by
       by_cases e:j=i
       ·subst e;exact h0
       ·exact hall.out j (by omega))
      clear hvi h0;go_wp2_with fail
      go_roundw
      case rel=> exact ⟨i + 1,by omega,by go_num,HA,hoc,hx⟩
      case measure=> simp [intOf];omega
     ·have hb:((c i)==0)=false:=by simpa using h0
      have hia:i < a:=by
       rcases Nat.lt_or_ge i a with e | e
       ·exact e
       ·exact absurd (hz.out i e hlt) h0
      have HF:=hid_ (show dvB p a low ml=false by
       rw [HFIN.out,List.all_eq_false];exact ⟨i,List.mem_range.2 hia,by simpa using h0⟩)
      clear h0;generalize c i=ci at *;go_wp2_with fail
      go_ret;exact ⟨ret_bool HF.out.symm,hx⟩
    ·have HF:=hid_ (show dvB p a low ml=true by
      rw [HFIN.out,List.all_eq_true];intro j hj;have:=hall.out j (by have:=List.mem_range.1 hj;omega);simp [this])
     go_wp2_with fail
     go_ret;exact ⟨ret_bool HF.out.symm,hx⟩
end
section
open Go.RowKit
def irB (p:Nat) (ml:List Int):Bool:=(List.range (ml.length / 2)).all fun d=> (List.range (p ^ (d + 1))).all fun v=> !dvB p (d + 1) (dig p (d + 1) v) ml
theorem irB_no {p:Nat} {ml:List Int} {d v:Nat} (h1:2 * (d + 1)≤ml.length) (h2:v < p ^ (d + 1)) (h3:dvB p (d + 1) (dig p (d + 1) v) ml=true):irB p ml=false:=by
 unfold irB;rw [List.all_eq_false];refine ⟨d,List.mem_range.2 (by omega),?_⟩;rw [Bool.not_eq_true,List.all_eq_false];exact ⟨v,List.mem_range.2 h2,by simp [h3]⟩
theorem irB_yes {p:Nat} {ml:List Int} (h:∀d v,2 * (d + 1)≤ml.length→v < p ^ (d + 1)→dvB p (d + 1) (dig p (d + 1) v) ml=false):irB p ml=true:=by
 unfold irB;rw [List.all_eq_true];intro d hd;rw [List.all_eq_true];intro v hv;rw [h d v (by have:=List.mem_range.1 hd;omega) (List.mem_range.1 hv)];rfl
theorem irreducible_any (p:Nat) (ml:List Int) (mv:Value) (w:World) (hp:2≤p) (hp':p≤256) (hm8:ml.length≤8) (hq:p ^ ml.length≤256) (hmv:ISl w mv ml) (hmr:∀x∈ml,0≤x∧x < p):
  Calls Tryz.prog 97 #[mv,.int .i64 p] w fun r w'=> r= .returned (.bool (irB p ml))∧Ex w w':=by
 have HMV:=hid_ hmv;have HDV:=hid_ (fun d v lv w' h1 h2 h3 h4=> divides_any p d (dig p d v) ml lv mv w' hp hp' h1 h2 hm8 h3 (dig_rng (by omega) d v) h4 hmr);have HNO:=hid_ (fun d v h1 h2 h3=> irB_no (p:=p) (ml:=ml) (d:=d) (v:=v) h1 h2 h3);have HYES:=hid_ (fun h=> irB_yes (p:=p) (ml:=ml) h);have HPL:=hid_ (show ∀d,d≤ml.length→p ^ d≤256 from fun d hd=> Nat.le_trans (Nat.pow_le_pow_right (by omega) hd) hq);have HPS:=hid_ (fun d=> Nat.pow_succ p d);obtain ⟨ma,mc,rfl,m1,m2,m3⟩:=hmv.open;unfold maxLen at m2;clear hmv hmr m3 hq;go_enter Tryz.func97,Tryz.ntmps97
 go_wp2_with fail
 go_loopw [5,6,7] (fun c' d' _ wr=> ∃d:Nat,2 * d≤ml.length∧d'= .int .i64 ((d:Int) + 1)∧c'= .int .i64 ((p ^ d:Nat):Int)∧Hid (∀e v,e < d→v < p ^ (e + 1)→dvB p (e + 1) (dig p (e + 1) v) ml=false)∧Ex w wr) (fun _ d' _ _=> 10 - (intOf d').toNat)
 case atStart=> exact ⟨0,by omega,rfl,by simp,hid_ (fun e v h=> by omega),Ex.refl _⟩
 case round=>
  obtain ⟨d,hd,rfl,rfl,hall,hx⟩:=hrel;have hpd:=HPL.out d (by omega);have hpp:1≤p ^ d:=Nat.pow_pos (by omega);have HP1:=hid_ (HPS.out d);by_cases hlt:2 * (d + 1)≤ml.length
  ·have hpd1:=HPL.out (d + 1) (by omega);rw [HP1.out] at hpd1;have hcast:((p ^ d:Nat):Int) * (p:Int)=((p ^ d * p:Nat):Int):=by simp
   have hm1:0≤((p ^ d:Nat):Int) * (p:Int):=by rw [hcast];omega
   have hm2:((p ^ d:Nat):Int) * (p:Int)≤256:=by rw [hcast];omega
   obtain ⟨n,hn⟩:∃n,p ^ d * p=n:=⟨_,rfl⟩;rw [hn] at hcast hpd1;have HC:=hid_ hcast;have hl1:2 * ((d:Int) + 1)≤(ml.length:Int):=by omega
   have HPE:=hid_ (show p ^ (d + 1)=n by rw [HP1.out,hn]);clear hcast hn HP1;generalize p ^ d=pd at *;obtain ⟨wo,rfl⟩:∃wo:World,wo=wr:=⟨_,rfl⟩;go_wp2_with fail
   rw [HC.out]
   go_loopw [7] (fun v' wr=> ∃v:Nat,v≤n∧v'= .int .i64 v∧Hid (∀u,u < v→dvB p (d + 1) (dig p (d + 1) u) ml=false)∧Ex w wr) (fun v' _=> n - (intOf v').toNat)
   case atStart=> exact ⟨0,by omega,rfl,hid_ (fun u h=> by omega),hx⟩
   case round=>
    clear hx;obtain ⟨v,hv,rfl,hal2,hx⟩:=hrel;by_cases hlv:v < n
    ·have HRD:=hid_ (fun w'=> by
      have h:=rdigits_any v p (d + 1) w' (by omega) (by omega) (by omega) (by omega);rw [show ((d + 1:Nat):Int)=(d:Int) + 1 by omega] at h;exact h)
     have hlv':(v:Int) < (n:Int):=by omega
     go_wp2_with fail
     (with_reducible refine (HRD.out _).mono ?_)
     rintro e w2 ⟨lv,rfl,⟨g,rfl,hg1,hg2⟩,hx2⟩;go_wp2_with fail
     refine (HDV.out (d + 1) v _ _ (by omega) (by omega) hg2.isl (HMV.out.ex (hx.trans hx2))).mono ?_;rintro e w3 ⟨rfl,hx3⟩;by_cases hdv:dvB p (d + 1) (dig p (d + 1) v) ml=true
     ·have HF:=hid_ (HNO.out d v hlt (by rw [HPE.out];exact hlv) hdv);rw [hdv];clear hdv;go_wp2_with fail
      go_ret;exact ⟨ret_bool HF.out.symm,(hx.trans hx2).trans hx3⟩
     ·have hdv':dvB p (d + 1) (dig p (d + 1) v) ml=false:=by simpa using hdv
      rw [hdv'];have HA:=hid_ (show ∀u,u < v + 1→dvB p (d + 1) (dig p (d + 1) u) ml=false from fun u hu=> by
       by_cases e:u=v
       ·subst e;exact hdv'
       ·exact hal2.out u (by omega))
      clear hdv hdv';go_wp2_with fail
      go_roundw
      case rel=> exact ⟨v + 1,by omega,by go_num,HA,(hx.trans hx2).trans hx3⟩
      case measure=> simp [intOf];omega
    ·have hlv':(n:Int)≤(v:Int):=by omega
     have HA:=hid_ (show ∀e u,e < d + 1→u < p ^ (e + 1)→dvB p (e + 1) (dig p (e + 1) u) ml=false from fun e u he hu=> by
      by_cases h:e=d
      ·subst h;exact hal2.out u (by rw [HPE.out] at hu;omega)
      ·exact hall.out e u (by omega) hu)
     go_wp2_with fail
     go_roundw
     case rel=> exact ⟨d + 1,hlt,by go_num,by rw [HPE.out],HA,hx⟩
     case measure=> simp [intOf];omega
  ·have HF:=hid_ (HYES.out fun e v h1 h2=> hall.out e v (by omega) h2);have hl1:¬2 * ((d:Int) + 1)≤(ml.length:Int):=by omega
   generalize p ^ d=pd at *;go_wp2_with fail
   go_ret;exact ⟨ret_bool HF.out.symm,hx⟩
def chkS (p m:Int) (ml:List Int):Int:=if (shB p m ml && (decide (m=1) || irB p.toNat ml))=true then 0 else 1
theorem chk_bad {p m:Int} {ml:List Int} (h:shB p m ml=false):chkS p m ml=1:=by unfold chkS;rw [h];rfl
theorem rCheck_any (p m:Int) (ml:List Int) (mv:Value) (w:World) (hmv:ISl w mv ml):
  Calls Tryz.prog 55 #[.agg #[.int .i64 p,.int .i64 m,mv]] w fun r w'=> r= .returned (.int .i64 (chkS p m ml))∧Ex w w':=by
 obtain ⟨d0,d1,d2,e0,_⟩:=box_facts w p m mv;have HSH:=hid_ (show shB p m ml=(decide (ordS p m≠0) && (prB p.toNat && if m=1 then ml.length==0 else ml.length==m.toNat && ml.all fun x=> decide (0≤x) && decide (x < p))) from rfl);have HMV:=hid_ hmv;obtain ⟨ma,mc,rfl,m1,m2,m3⟩:=(hmv.ex e0).open;have M3:=hid_ m3;have hor:=fun w=> rOrder_any p m (.slice ma ml.length mc) w;have HBAD:=hid_ (fun h=> chk_bad (p:=p) (m:=m) (ml:=ml) h);unfold maxLen at m2;clear hmv m3;have D0:=hid_ d0;have D1:=hid_ d1;have D2:=hid_ d2;clear d0 d1 d2;by_cases ho:ordS p m=0
 ·have HC:=hid_ (HBAD.out (by rw [HSH.out,ho];rfl));rw [ho] at hor;have HOR:=hid_ hor;clear ho hor;go_enter Tryz.func55,Tryz.ntmps55
  have d0:=D0.out;have d1:=D1.out;have d2:=D2.out;go_wp2_with fail
  generalize w.alloc (.cells #[.int .i64 p,.int .i64 m,.slice ma ml.length mc] 24)=w1 at *;clear D0 D1 D2;refine (HOR.out _).mono ?_;rintro e w2 ⟨rfl,hx2⟩;have r0:=hx2.cell d0;have r1:=hx2.cell d1;have r2:=hx2.cell d2;go_wp2_with fail
  go_ret;exact ⟨ret_int HC.out.symm,e0.trans hx2⟩
 ·obtain ⟨pn,mn,rfl,rfl,p2,q1,q8,qq,hoe⟩:=ordS_ne ho;have hpw:1≤pn ^ mn:=Nat.pow_pos (by omega);have hp256:pn≤256:=by
   have h1:pn ^ 1≤pn ^ mn:=Nat.pow_le_pow_right (by omega) q1;rw [Nat.pow_one] at h1;omega
  have hb0:(((pn ^ mn:Nat):Int)==0)=false:=by rw [beq_eq_false_iff_ne];omega
  have HSH2:=hid_ (show shB pn mn ml=(prB pn && if (mn:Int)=1 then ml.length==0 else ml.length==mn && ml.all fun x=> decide (0≤x) && decide (x < pn)) by
   rw [HSH.out,decide_eq_true ho];simp)
  have hip:=fun w=> rprime_any pn w p2 hp256;have HQQ:=hid_ qq;have HQP:=hid_ (show ∀n,n=mn→pn ^ n≤256 from fun n h=> by rw [h];exact qq);rw [hoe] at hor;have HOR:=hid_ hor;clear hor;generalize pn ^ mn=qn at *;clear ho hoe HSH;by_cases hpr:prB pn=true
  ·rw [hpr] at HSH2 hip;have HIP:=hid_ hip;clear hip hpr;by_cases hm1:mn=1
   ·have hm1':((mn:Int)==1)=true:=by simp;omega
    by_cases hl:ml.length=0
    ·have HC:=hid_ (show chkS pn mn ml=0 by
      unfold chkS;rw [HSH2.out,if_pos (show (mn:Int)=1 by omega),hl,decide_eq_true (show (mn:Int)=1 by omega)];rfl)
     have hl':((ml.length:Int) !=0)=false:=by rw [bne_eq_false_iff_eq];omega
     have hl'':((ml.length:Int)==0)=true:=by rw [beq_iff_eq];omega
     clear hm1 HSH2 hl;go_enter Tryz.func55,Tryz.ntmps55
     have d0:=D0.out;have d1:=D1.out;have d2:=D2.out;go_wp2_with fail
     generalize w.alloc (.cells #[.int .i64 pn,.int .i64 mn,.slice ma ml.length mc] 24)=w1 at *;clear D0 D1 D2;refine (HOR.out _).mono ?_;rintro e w2 ⟨rfl,hx2⟩;have r0:=hx2.cell d0;have r1:=hx2.cell d1;have r2:=hx2.cell d2;go_wp2_with fail
     refine (HIP.out _).mono ?_;rintro e w3 ⟨rfl,rfl⟩;go_wp2_with fail
     go_ret;exact ⟨ret_int HC.out.symm,e0.trans hx2⟩
    ·have HC:=hid_ (HBAD.out (by rw [HSH2.out,if_pos (show (mn:Int)=1 by omega),Bool.true_and,beq_eq_false_iff_ne];exact hl));have hl':((ml.length:Int) !=0)=true:=by rw [bne_iff_ne];omega
     have hl'':((ml.length:Int)==0)=false:=by rw [beq_eq_false_iff_ne];omega
     clear hm1 HSH2 hl;go_enter Tryz.func55,Tryz.ntmps55
     have d0:=D0.out;have d1:=D1.out;have d2:=D2.out;go_wp2_with fail
     generalize w.alloc (.cells #[.int .i64 pn,.int .i64 mn,.slice ma ml.length mc] 24)=w1 at *;clear D0 D1 D2;refine (HOR.out _).mono ?_;rintro e w2 ⟨rfl,hx2⟩;have r0:=hx2.cell d0;have r1:=hx2.cell d1;have r2:=hx2.cell d2;go_wp2_with fail
     refine (HIP.out _).mono ?_;rintro e w3 ⟨rfl,rfl⟩;go_wp2_with fail
     go_ret;exact ⟨ret_int HC.out.symm,e0.trans hx2⟩
   ·have hm1':((mn:Int)==1)=false:=by simp;omega
    have HR:=hid_ (show shB pn mn ml=(ml.length==mn && ml.all fun x=> decide (0≤x) && decide (x < pn)) by rw [HSH2.out,if_neg (by omega),Bool.true_and]);have HM1:=hid_ hm1;clear hm1 HSH2;by_cases hlen:ml.length=mn
    ·have hl1:((ml.length:Int)==(mn:Int))=true:=by rw [beq_iff_eq];omega
     have hl2:((ml.length:Int) !=(mn:Int))=false:=by rw [bne_eq_false_iff_eq];omega
     have HR2:=hid_ (show shB pn mn ml=ml.all fun x=> decide (0≤x) && decide (x < pn) by rw [HR.out,show (ml.length==mn)=true by simp [hlen],Bool.true_and]);have HLEN:=hid_ hlen;clear hlen HR;go_enter Tryz.func55,Tryz.ntmps55
     have d0:=D0.out;have d1:=D1.out;have d2:=D2.out;go_wp2_with fail
     generalize w.alloc (.cells #[.int .i64 pn,.int .i64 mn,.slice ma ml.length mc] 24)=w1 at *;clear D0 D1 D2;refine (HOR.out _).mono ?_;rintro e w2 ⟨rfl,hx2⟩;have r0:=hx2.cell d0;have r1:=hx2.cell d1;have r2:=hx2.cell d2;go_wp2_with fail
     refine (HIP.out _).mono ?_;rintro e w3 ⟨rfl,rfl⟩;go_wp2_with fail
     clear r0 r1 r2
     go_loopw [3] (fun j' wr=> ∃j:Nat,j≤ml.length∧j'= .int .i64 j∧Hid (∀i y,i < j→ml[i]?=some y→0≤y∧y < pn)∧Ex w1 wr) (fun j' _=> ml.length - (intOf j').toNat)
     case atStart=> exact ⟨0,by omega,rfl,hid_ (fun i y h=> by omega),hx2⟩
     case round=>
      clear hx2;obtain ⟨j,hj,rfl,hall,hx⟩:=hrel;have r0:=hx.cell d0;have r1:=hx.cell d1;have r2:=hx.cell d2;by_cases hlt:j < ml.length
      ·obtain ⟨y,hy⟩:∃y,ml[j]?=some y:=⟨_,List.getElem?_eq_getElem hlt⟩;obtain ⟨b,o,rfl,hc⟩:=M3.out (by omega);have c1:=hx.cell (hc j y hy);have hltm:(j:Int) < (mn:Int):=by have:=HLEN.out;omega
       by_cases hy0:0≤y∧y < pn
       ·have HA:=hid_ (show ∀i z,i < j + 1→ml[i]?=some z→0≤z∧z < pn from fun i z hi hz=> by
         by_cases e:i=j
         ·subst e;rw [hy] at hz;injection hz with hz;subst hz;exact hy0
         ·exact hall.out i z (by omega) hz)
        obtain ⟨y0,y1⟩:=hy0;have b1:decide (y < 0)=false:=by simpa using y0
        have b2:decide ((pn:Int)≤y)=false:=by simpa using y1
        clear hc hy;go_wp2_with fail
        go_quiet (fail)
        go_wp2_with fail
        go_roundw
        case rel=> exact ⟨j + 1,by omega,by go_num,HA,hx.drewN _⟩
        case measure=> simp [intOf];omega
       ·have HF:=hid_ (HBAD.out (by
         rw [HR2.out,List.all_eq_false];refine ⟨y,List.mem_of_getElem? hy,?_⟩;simpa using hy0))
        have hy1:y < 0∨(0≤y∧(pn:Int)≤y):=by omega
        clear hc hy hy0;rcases hy1 with hy1 | ⟨hy1,hy2⟩
        ·have b1:decide (y < 0)=true:=by simpa using hy1
         go_wp2_with fail
         go_quiet (fail)
         go_wp2_with fail
         go_ret;exact ⟨ret_int HF.out.symm,e0.trans (hx.drewN _)⟩
        ·have b1:decide (y < 0)=false:=by simpa using hy1
         have b2:decide ((pn:Int)≤y)=true:=by simpa using hy2
         go_wp2_with fail
         go_quiet (fail)
         go_wp2_with fail
         go_ret;exact ⟨ret_int HF.out.symm,e0.trans (hx.drewN _)⟩
      ·obtain rfl:j=ml.length:=by omega
       have hAll:∀y∈ml,0≤y∧y < pn:=fun y hy=> by
        obtain ⟨i,hi,e⟩:=List.getElem_of_mem hy;exact hall.out i y hi (by rw [List.getElem?_eq_getElem hi,e])
       have HT:=hid_ (show chkS pn mn ml=if irB pn ml=true then 0 else 1 by
        unfold chkS;rw [HR2.out,show (ml.all fun x=> decide (0≤x) && decide (x < (pn:Int)))=true by
         rw [List.all_eq_true];intro y hy;simp [hAll y hy],decide_eq_false (show ¬(mn:Int)=1 by have:=HM1.out;omega)]
        simp)
       have HIR:=hid_ (fun (w':World) (h:ISl w' (.slice ma ml.length mc) ml)=> irreducible_any pn ml (.slice ma ml.length mc) w' p2 hp256 (by have:=HLEN.out;omega) (HQP.out _ HLEN.out) h hAll);have hltm:¬((ml.length:Int) < (mn:Int)):=by have:=HLEN.out;omega
       clear hAll;go_wp2_with fail
       refine (HIR.out _ (HMV.out.ex (e0.trans hx))).mono ?_;rintro e w4 ⟨rfl,hx4⟩;by_cases hir:irB pn ml=true
       ·have HC:=hid_ (show chkS pn mn ml=0 by rw [HT.out,if_pos hir]);rw [hir];clear hir;go_wp2_with fail
        go_ret;exact ⟨ret_int HC.out.symm,(e0.trans hx).trans hx4⟩
       ·have HC:=hid_ (show chkS pn mn ml=1 by rw [HT.out,if_neg hir]);have hir':irB pn ml=false:=by simpa using hir
        rw [hir'];clear hir hir';go_wp2_with fail
        go_ret;exact ⟨ret_int HC.out.symm,(e0.trans hx).trans hx4⟩
    ·have hl1:((ml.length:Int)==(mn:Int))=false:=by rw [beq_eq_false_iff_ne];omega
     have hl2:((ml.length:Int) !=(mn:Int))=true:=by rw [bne_iff_ne];omega
     have HC:=hid_ (HBAD.out (by rw [HR.out,show (ml.length==mn)=false by simp [hlen],Bool.false_and]));clear hlen HR;go_enter Tryz.func55,Tryz.ntmps55
     have d0:=D0.out;have d1:=D1.out;have d2:=D2.out;go_wp2_with fail
     generalize w.alloc (.cells #[.int .i64 pn,.int .i64 mn,.slice ma ml.length mc] 24)=w1 at *;clear D0 D1 D2;refine (HOR.out _).mono ?_;rintro e w2 ⟨rfl,hx2⟩;have r0:=hx2.cell d0;have r1:=hx2.cell d1;have r2:=hx2.cell d2;go_wp2_with fail
     refine (HIP.out _).mono ?_;rintro e w3 ⟨rfl,rfl⟩;go_wp2_with fail
     go_ret;exact ⟨ret_int HC.out.symm,e0.trans hx2⟩
  ·have hpr':prB pn=false:=by simpa using hpr
   have HC:=hid_ (HBAD.out (by rw [HSH2.out,hpr'];rfl));rw [hpr'] at hip;have HIP:=hid_ hip;clear hip hpr hpr' HSH2;go_enter Tryz.func55,Tryz.ntmps55
   have d0:=D0.out;have d1:=D1.out;have d2:=D2.out;go_wp2_with fail
   generalize w.alloc (.cells #[.int .i64 pn,.int .i64 mn,.slice ma ml.length mc] 24)=w1 at *;clear D0 D1 D2;refine (HOR.out _).mono ?_;rintro e w2 ⟨rfl,hx2⟩;have r0:=hx2.cell d0;have r1:=hx2.cell d1;have r2:=hx2.cell d2;go_wp2_with fail
   refine (HIP.out _).mono ?_;rintro e w3 ⟨rfl,rfl⟩;go_wp2_with fail
   go_ret;exact ⟨ret_int HC.out.symm,e0.trans hx2⟩
end
end Go.Proofs.YtgdmlmhpineibaaGreat
