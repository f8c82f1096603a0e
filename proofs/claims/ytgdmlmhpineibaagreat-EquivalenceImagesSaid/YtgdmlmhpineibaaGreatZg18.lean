/- Walk of matrix.eliminate. -/
import Derived.Test.YtgdmlmhpineibaaGreatZg17
namespace Go.Proofs.YtgdmlmhpineibaaGreat
set_option linter.unusedVariables false
set_option linter.unusedSimpArgs false
set_option maxRecDepth 100000
set_option maxHeartbeats 16000000
open Go.RowKit
def ElO (p m:Nat) (ml:List Int) (N R:Nat) (a a':Nat→Nat→Int) (piv:List Nat):Prop:=
 ∃c,c≤N∧PV p m R N a' piv c∧(piv.length=R∨c=N)∧∀x,Sol p m ml N R a' x↔Sol p m ml N R a x
theorem elim_any {p m:Nat} {ml:List Int} {b x0:Nat} (w0 w:World) (hg:GFat w0 b p m ml x0) (hx1:1≤x0) (hx2:x0 < p ^ m) (hx0:Ex w0 w) {base g R N:Nat} {blk cap:Nat→Nat} {a:Nat→Nat→Int} (h:EM w base g R N blk cap a []) (hb:w0.heap.size≤base) (hN:N≤256) (hR:R≤256) (hrng:Rng p m R N a):
  Calls Tryz.prog 159 #[.pointer (some ⟨b,0,none⟩),.slice (some ⟨g,0,none⟩) R R,.int .i64 N,.slice none 0 0] w fun r w'=> ∃piv pv det blk' cap' a',r= .returned (.tuple #[pv,.int .i64 det])∧EM w' base g R N blk' cap' a' []∧ElO p m ml N R a a' piv∧ISl w' pv (pI piv)∧Ex w0 w'∧∀B,pv.ownBlock=some B→base≤B:=by
 have p2:=hg.sh.p2;have m1:=hg.sh.m1;have HG:=hid_ hg;have HF:=hid_ (hg.isF hx1 hx2);have HX1:=hid_ (show 1≤x0∧x0 < p ^ m from ⟨hx1,hx2⟩);obtain ⟨B4,hB4⟩:∃B4,w.heap.size=B4:=⟨_,rfl⟩;have h1:=(h.box (.cells #[.pointer (some ⟨b,0,none⟩)] 79)).box (.cells #[.slice (some ⟨g,0,none⟩) R R] 45);have h2:=h1.box (.cells #[.slice none 0 0] 45);have e4:((w.alloc (.cells #[.pointer (some ⟨b,0,none⟩)] 79)).alloc (.cells #[.slice (some ⟨g,0,none⟩) R R] 45)).heap.size=B4 + 1 + 1:=by simp [hB4]
 have e5:(w.alloc (.cells #[.pointer (some ⟨b,0,none⟩)] 79)).heap.size=B4 + 1:=by simp [hB4]
 rw [e4,e5,hB4] at h2;have HEB:Hid (EB w0 (((w.alloc (.cells #[.pointer (some ⟨b,0,none⟩)] 79)).alloc (.cells #[.slice (some ⟨g,0,none⟩) R R] 45)).alloc (.cells #[.slice none 0 0] 45)) base g R N blk cap a (AV (.slice none 0 0) B4 (B4 + 1) (B4 + 1 + 1)) B4 (B4 + 1) (B4 + 1 + 1) b (.slice none 0 0) []):=by
  refine hid_ ⟨h2.less fun B hB=> ?_,by unfold AV;simp,by unfold AV;simp,by unfold AV;simp,?_,?_,?_,World.ownsRow_nil _ _ _ _,fun B hB=> (by cases hB),((hx0.alloc _).alloc _).alloc _,hb⟩
  ·unfold AV at hB;simp [Value.ownBlock] at hB;rcases hB with rfl | rfl | rfl <;> simp
  ·rw [World.cell?_alloc_lt _ _ _ (by rw [e4];show B4 < _;omega),World.cell?_alloc_lt _ _ _ (by rw [e5];show B4 < _;omega)];exact alloc1_cell _ _ _ hB4
  ·rw [World.cell?_alloc_lt _ _ _ (by rw [e4];show B4 + 1 < _;omega)];exact alloc1_cell _ _ _ e5
  ·exact alloc1_cell _ _ _ e4
 have HRG:=hid_ hrng;have HB4:=hid_ (show w0.heap.size≤B4 from by have:=hx0.size;omega);clear h1 h2 h hrng hg hx1 hx2 hb hx0;go_enter Tryz.func159,Tryz.ntmps159
 go_wp2_with fail
 try simp only [hB4,e5,e4]
 generalize (((w.alloc (.cells #[.pointer (some ⟨b,0,none⟩)] 79)).alloc (.cells #[.slice (some ⟨g,0,none⟩) R R] 45)).alloc (.cells #[.slice none 0 0] 45))=w3 at *;have hP0:=hid_ (show PV p m R N a [] 0 from PV.init HRG.out);have hS0:=hid_ (show ∀x,Sol p m ml N R a x↔Sol p m ml N R a x from fun x=> Iff.rfl);clear e4 e5 hB4
 go_loopw [10,12,13] (fun d' pv c' wr=> ∃(c:Nat) (piv:List Nat) (det:Int) (blk' cap':Nat→Nat) (a':Nat→Nat→Int),c≤N∧c'= .int .i64 c∧d'= .int .i64 det∧Hid (EB w0 wr base g R N blk' cap' a' (AV pv B4 (B4 + 1) (B4 + 1 + 1)) B4 (B4 + 1) (B4 + 1 + 1) b pv piv)∧Hid (PV p m R N a' piv c)∧Hid (∀x,Sol p m ml N R a' x↔Sol p m ml N R a x)) (fun _ _ c' _=> N - (intOf c').toNat)
 case atStart=> exact ⟨0, [],1,blk,cap,a,by omega,rfl,rfl,HEB,hP0,hS0⟩
 case round=>
  clear HEB hP0 hS0;obtain ⟨c,piv,det,blk1,cap1,a1,hc,rfl,rfl,heb,hpv,hsol⟩:=hrel;obtain ⟨pa,pc,hpve⟩:=own_shape heb.out.pvo;subst hpve;have c5:=heb.out.c5;have hple:=hpv.out.le;have HEX:=hid_ (show (piv.length=R∨c=N)→ElO p m ml N R a a1 piv from fun h=> ⟨c,hc,hpv.out,h,hsol.out⟩);have HEM:=hid_ (heb.out.em.less (bvs:= []) (fun B hB=> by cases hB));have HIS:=hid_ (show ISl wr (.slice pa piv.length pc) (pI piv) from by
   have:=Sl.own heb.out.pvo;unfold ISl;rw [pI_len];exact this)
  by_cases hcN:c < N
  ·have b1:decide ((c:Int) < (N:Int))=true:=by simp;omega
   have b2:decide (c < N)=true:=by simp;omega
   have b2':(c:Int) < (N:Int):=by omega
   by_cases hpR:piv.length < R
   ·have b3:decide ((piv.length:Int) < (R:Int))=true:=by simp;omega
    have b4:decide (piv.length < R)=true:=by simp;omega
    clear HEX HEM HIS;obtain ⟨s,hs⟩:∃s,piv.length=s:=⟨_,rfl⟩;have HS:=hid_ hs;rw [hs] at hpR b3 b4 heb ⊢;clear hs;obtain ⟨Q,hQ⟩:∃Q,wr.heap.size=Q:=⟨_,rfl⟩;have hQ1:(wr.alloc (.cells #[.int .i64 s] 3)).heap.size=Q + 1:=by simp [hQ]
    have hb1:=heb.out.box (.cells #[.int .i64 s] 3);have hb2:=hb1.box (.cells #[.int .i64 s] 3);rw [hQ1,hQ] at hb2;have c14:((wr.alloc (.cells #[.int .i64 s] 3)).alloc (.cells #[.int .i64 s] 3)).cell? ⟨Q,0,none⟩=some (.int .i64 s):=by
     rw [World.cell?_alloc_lt _ _ _ (by rw [hQ1];show Q < _;omega)];exact alloc1_cell _ _ _ hQ
    have c15:((wr.alloc (.cells #[.int .i64 s] 3)).alloc (.cells #[.int .i64 s] 3)).cell? ⟨Q + 1,0,none⟩=some (.int .i64 s):=alloc1_cell _ _ _ hQ1;have f15:((wr.alloc (.cells #[.int .i64 s] 3)).alloc (.cells #[.int .i64 s] 3)).frozen? ⟨Q + 1,0,none⟩=false:=alloc1_frz _ _ _ hQ1;have hQ4:B4 + 1 + 1 < Q:=by
     have:=(heb.out.em.av _ heb.out.i7).1;omega
    have hQp:∀B,(Value.slice pa s pc).ownBlock=some B→B < Q:=fun B hB=> by
     have:=(heb.out.em.av B (heb.out.pvi B hB).1).1;omega
    have HQP:=hid_ hQp;have HB2:=hid_ hb2;have C14:=hid_ c14;have C15:=hid_ c15;have F15:=hid_ f15;have c14a:(wr.alloc (.cells #[.int .i64 s] 3)).cell? ⟨Q,0,none⟩=some (.int .i64 s):=alloc1_cell _ _ _ hQ;clear hb1 hb2 heb hQp;go_upto_region 9 with fail
    clear c14 c15 f15 c14a c5;generalize (wr.alloc (.cells #[.int .i64 s] 3)).alloc (.cells #[.int .i64 s] 3)=W2 at *;have HQ4:=hid_ hQ4;have HPV:=hid_ hpv.out;have HZ0:=hid_ (show ∀k',s≤k'→k' < s→a1 k' c=0 from fun k' h1 h2=> by omega);clear hQ hQ1 hpv
    go_loopg [] (R + 1) (fun gk wr=> ∃k:Nat,s≤k∧k≤R∧R + 1 - k≤gk∧wr.cell? ⟨Q + 1,0,none⟩=some (.int .i64 k)∧wr.frozen? ⟨Q + 1,0,none⟩=false∧wr.cell? ⟨Q,0,none⟩=some (.int .i64 s)∧
     Hid (EB w0 wr base g R N blk1 cap1 a1 ((Q + 1) :: Q :: AV (.slice pa s pc) B4 (B4 + 1) (B4 + 1 + 1)) B4 (B4 + 1) (B4 + 1 + 1) b (.slice pa s pc) piv)∧Hid (∀k',s≤k'→k' < k→a1 k' c=0))
    case atStart=> exact ⟨s,Nat.le_refl _,by omega,by omega,C15.out,F15.out,C14.out,HB2,HZ0⟩
    case round=>
     clear HB2 HZ0 C14 C15 F15;obtain ⟨k,hk1,hk2,hgk,c15,f15,c14,heb,hzz⟩:=hrel;have c5:=heb.out.c5;by_cases hkR:k < R
     ·have cg:=heb.out.em.cell hkR;have ce:=heb.out.em.ent hkR hcN;have i1:(0:Int)≤(k:Int):=by omega
      have i2:(k:Int) < (R:Int):=by omega
      have i3:(0:Int)≤(c:Int):=by omega
      by_cases hz:a1 k c=0
      ·have hbz:(a1 k c==0)=true:=by simp [hz]
       have HB3:=hid_ (heb.out.setB (B:=Q + 1) (by simp) (by have:=HQ4.out;omega) (by have:=HQ4.out;omega) (by have:=HQ4.out;omega) (fun e=> by have:=HQP.out _ e;omega) (by have:=HB4.out;have:=HQ4.out;omega) (.int .i64 ((k:Int) + 1)));have c15n:(wr.setCell ⟨Q + 1,0,none⟩ (.int .i64 ((k:Int) + 1))).cell? ⟨Q + 1,0,none⟩=some (.int .i64 ((k:Int) + 1)):=World.cell?_setCell_same (h:=c15) ..;have c14n:(wr.setCell ⟨Q + 1,0,none⟩ (.int .i64 ((k:Int) + 1))).cell? ⟨Q,0,none⟩=some (.int .i64 s):=by rw [cell_setCell_ne (by omega)];exact c14
       have f15n:(wr.setCell ⟨Q + 1,0,none⟩ (.int .i64 ((k:Int) + 1))).frozen? ⟨Q + 1,0,none⟩=false:=by rw [World.frozen?_setCell];exact f15
       have HZ3:=hid_ (show ∀k',s≤k'→k' < k + 1→a1 k' c=0 from fun k' h1 h2=> by
        by_cases e:k'=k
        ·rw [e];exact hz
        ·exact hzz.out k' h1 (by omega))
       have C15N:=hid_ c15n;have C14N:=hid_ c14n;have F15N:=hid_ f15n;clear hz heb hzz c15n c14n f15n;go_wp2_with fail
       go_roundg (gk - 1)
       case rel=> exact ⟨k + 1,by omega,by omega,by omega,by rw [show ((k + 1:Nat):Int)=(k:Int) + 1 by push_cast;rfl];exact C15N.out,F15N.out,C14N.out,HB3,HZ3⟩
       case measure=> omega
      ·have hbz:(a1 k c==0)=false:=by simpa using hz
       have hq1:((k:Int)==(R:Int))=false:=by simp;omega
       have hq2:(k==R)=false:=by simp;omega
       have HSR:=hid_ (show s < R∧s≤k∧k < R from ⟨by omega,hk1,hkR⟩);have HNZ:=hid_ hz;have hmQ:Q + 1∈(Q + 1) :: Q :: AV (.slice pa s pc) B4 (B4 + 1) (B4 + 1 + 1):=by simp
       have hmQ2:Q∈(Q + 1) :: Q :: AV (.slice pa s pc) B4 (B4 + 1) (B4 + 1 + 1):=by simp
       have HMQ:=hid_ hmQ;have HMQ2:=hid_ hmQ2;clear hz hzz f15 hgk hmQ hmQ2;go_upto_if 58 with fail
       clear cg ce
       go_cut [10] from 21 to 122 (fun d' wx=> ∃(det2:Int) (blk2 cap2:Nat→Nat) (a2:Nat→Nat→Int),d'= .int .i64 det2∧wx.cell? ⟨Q,0,none⟩=some (.int .i64 s)∧
        Hid (EB w0 wx base g R N blk2 cap2 a2 ((Q + 1) :: Q :: AV (.slice pa s pc) B4 (B4 + 1) (B4 + 1 + 1)) B4 (B4 + 1) (B4 + 1 + 1) b (.slice pa s pc) piv)∧Hid (PV p m R N a2 piv c)∧Hid (∀x,Sol p m ml N R a2 x↔Sol p m ml N R a x)∧Hid (a2 s c≠0))
       case first=>
        by_cases hks:k=s
        ·have hq3:((k:Int) !=(s:Int))=false:=by simp [hks]
         have hq4:(k !=s)=false:=by simp [hks]
         have HNZ2:=hid_ (show a1 s c≠0 from by rw [←hks];exact HNZ.out);clear hks;go_wp2_with fail
         go_meet
         exact ⟨det,blk1,cap1,a1,rfl,c14,heb,HPV,hsol,HNZ2⟩
        ·have hq3:((k:Int) !=(s:Int))=true:=by simp;omega
         have hq4:(k !=s)=true:=by simp;omega
         have HE:=hid_ (each_swp wr heb.out.em (B4 + 1) (B4 + 1 + 1) (Q + 1) Q s k HSR.out.1 HSR.out.2.2 (fun e=> hks e.symm) heb.out.i7 HMQ.out HMQ2.out heb.out.c5 heb.out.c7 c15 c14);have HN:=hid_ (fun wx (h:Ex w0 wx)=> Neg_any wx (HG.out.ex h) det);have HPV2:=hid_ (show PV p m R N (swpA a1 s k) piv c from by have:=HPV.out.swp (k:=k) (by rw [HS.out];exact HSR.out.2.1) HSR.out.2.2;rw [HS.out] at this;exact this);have HSOL2:=hid_ (show ∀x,Sol p m ml N R (swpA a1 s k) x↔Sol p m ml N R a x from fun x=> (Sol.swp HSR.out.1 HSR.out.2.2).trans (hsol.out x));have HNZ2:=hid_ (show swpA a1 s k s c≠0 from by unfold swpA;rw [if_pos rfl];exact HNZ.out);have C14:=hid_ c14;clear hks c14 c15;go_wp2_with (first | (go_at_call 178;refine HE.out.mono ?_;rintro e wx hstp;obtain ⟨⟨t,rfl⟩,_⟩:=id hstp;obtain ⟨blk2,cap2,hb2⟩:=heb.out.step hstp;have c4n:=hb2.c4;have c14n:=hstp.2.2.1.cell HMQ2.out C14.out;have HB2:=hid_ hb2;clear hstp hb2) | (go_at_call 126;refine (HN.out _ HB2.out.ex).mono ?_;rintro e wy ⟨rfl,n,rfl⟩))
         go_meet
         exact ⟨_,blk2,cap2,_,rfl,((Ex.refl wx).drewN n).cell c14n,hid_ (HB2.out.later ((Ex.refl wx).drewN n)),HPV2,HSOL2,HNZ2⟩
       case rest=>
        obtain ⟨det2,blk2,cap2,a2,rfl,c14,heb,hpv2,hsol2,hnz2⟩:=hcut;have hsR:=HSR.out.1;have HC14:=hid_ c14;have HCG:=hid_ (heb.out.em.cell hsR);have HCE:=hid_ (heb.out.em.ent hsR hcN);have HC4:=hid_ heb.out.c4;have HC5:=hid_ heb.out.c5;obtain ⟨r1,r2⟩:=hpv2.out.rng s hsR c hcN;have hzc:=kin_code r1 r2;obtain ⟨Z,hZ⟩:∃Z,kin (p ^ m) (a2 s c)=Z:=⟨_,rfl⟩;rw [hZ] at hzc;have hZ1:1≤Z:=by have:=hnz2.out;omega
        have hZ2:Z < p ^ m:=by rw [←hZ];exact kin_lt (Nat.pow_pos (by omega)) _
        obtain ⟨KI,hKI⟩:∃K,kinv p m ml Z=K:=⟨_,rfl⟩;have hKI1:=kinv_mul (ml:=ml) p2 m1 HF.out hZ1 hZ2;have hKIl:KI < p ^ m:=by rw [←hKI];exact kinv_lt (Nat.pow_pos (by omega)) _
        rw [hKI] at hKI1;have HKI:=hid_ (show kmul p m (lw ml) Z KI=1∧KI < p ^ m∧a2 s c=Z∧kin (p ^ m) (a2 s c)=Z∧Z < p ^ m from ⟨hKI1,hKIl,hzc.symm,hZ,hZ2⟩);have HINV:=hid_ (show ∀w',Ex w0 w'→Calls Tryz.prog 52 #[.pointer (some ⟨b,0,none⟩),.int .i64 (a2 s c)] w' fun r w''=> r= .returned (.tuple #[.int .i64 (KI:Nat),.int .i64 0])∧∃n,w''=w'.drewN n from fun w' h=> by
         have:=Inv_any w' (HG.out.ex h) HX1.out.1 HX1.out.2 (a2 s c);rw [hZ] at this;unfold invR at this;rw [if_neg (by omega),hKI] at this;exact this)
        obtain ⟨KD,hKD⟩:∃K,kmul p m (lw ml) (kin (p ^ m) det2) Z=K:=⟨_,rfl⟩;have HMUL:=hid_ (show ∀w',Ex w0 w'→Calls Tryz.prog 59 #[.pointer (some ⟨b,0,none⟩),.int .i64 det2,.int .i64 (a2 s c)] w' fun r w''=> r= .returned (.int .i64 (KD:Nat))∧∃n,w''=w'.drewN n from fun w' h=> by
         have:=Mul_any w' (HG.out.ex h) det2 (a2 s c);rw [hZ,hKD] at this;exact this)
        have i1:(0:Int)≤(s:Int):=by omega
        have i2:(s:Int) < (R:Int):=by omega
        have i3:(0:Int)≤(c:Int):=by omega
        clear hZ hKI hKI1 hKIl hKD r1 r2 hzc hZ1 hZ2 c14 c15 c5;go_upto_region 15 with fail
        have E0:Ex wc wc.drew:=(Ex.refl wc).drew;have G0:Ex w0 wc.drew:=heb.out.ex.trans E0
        go_region_held3 (fun w'=> w'.cell? ⟨B4,0,none⟩=some (.pointer (some ⟨b,0,none⟩))∧w'.cell? ⟨B4 + 1,0,none⟩=some (.slice (some ⟨g,0,none⟩) R R)∧w'.cell? ⟨Q,0,none⟩=some (.int .i64 s)∧w'.cell? ⟨g,s,none⟩=some (.slice (some ⟨blk2 s,0,none⟩) N (cap2 s))∧w'.cell? ⟨blk2 s,c,none⟩=some (.int .i64 (a2 s c)))
         (first | with_reducible exact ⟨E0.cell HC4.out,E0.cell HC5.out,E0.cell HC14.out,E0.cell HCG.out,E0.cell HCE.out⟩ | with_reducible exact ⟨((Ex.refl wc).drewN _).cell HC4.out,((Ex.refl wc).drewN _).cell HC5.out,((Ex.refl wc).drewN _).cell HC14.out,((Ex.refl wc).drewN _).cell HCG.out,((Ex.refl wc).drewN _).cell HCE.out⟩)
         ((go_at_call 59;(with_reducible refine (HMUL.out _ G0).mono ?_);rintro e wx1 ⟨rfl,n1,rfl⟩))
        clear E0 G0;go_upto_region 16 with fail
        have HD:=hid_ (heb.out.later ((Ex.refl wc).drewN (1 + n1)));have HD14:=hid_ (((Ex.refl wc).drewN (1 + n1)).cell HC14.out);clear HC14 HCG HCE HC4 HC5 heb HMUL;generalize wc.drewN (1 + n1)=wd at *;have HC4:=hid_ HD.out.c4;have HC5:=hid_ HD.out.c5;have HCG:=hid_ (HD.out.em.cell hsR);have HCE:=hid_ (HD.out.em.ent hsR hcN);have E0:Ex wd wd.drew:=(Ex.refl wd).drew;have G0:Ex w0 wd.drew:=HD.out.ex.trans E0;have hn1:∀n,((wd.drewN n).alloc (.cells #[.int .i64 0] 3)).cell? ⟨wd.heap.size,0,none⟩=some (.int .i64 0):=fun n=> alloc1_cell _ _ _ rfl;have hn2:∀n,((wd.drewN n).alloc (.cells #[.int .i64 0] 3)).frozen? ⟨wd.heap.size,0,none⟩=false:=fun n=> alloc1_frz _ _ _ rfl;have hn3:(wd.alloc (.cells #[.int .i64 0] 3)).cell? ⟨wd.heap.size,0,none⟩=some (.int .i64 0):=alloc1_cell _ _ _ rfl;have hn4:(wd.alloc (.cells #[.int .i64 0] 3)).frozen? ⟨wd.heap.size,0,none⟩=false:=alloc1_frz _ _ _ rfl;have HKW:=hid_ (show ∀(W:World) (u:Value),Ex wd W→(W.setCell ⟨wd.heap.size,0,none⟩ u).cell? ⟨B4,0,none⟩=some (.pointer (some ⟨b,0,none⟩))∧(W.setCell ⟨wd.heap.size,0,none⟩ u).cell? ⟨B4 + 1,0,none⟩=some (.slice (some ⟨g,0,none⟩) R R)∧(W.setCell ⟨wd.heap.size,0,none⟩ u).cell? ⟨Q,0,none⟩=some (.int .i64 s)∧(W.setCell ⟨wd.heap.size,0,none⟩ u).cell? ⟨g,s,none⟩=some (.slice (some ⟨blk2 s,0,none⟩) N (cap2 s))∧(W.setCell ⟨wd.heap.size,0,none⟩ u).cell? ⟨blk2 s,c,none⟩=some (.int .i64 (a2 s c)) from fun W u hW=> by
         have k1:=World.block_lt_of_cell? _ _ HC4.out;have k2:=World.block_lt_of_cell? _ _ HC5.out;have k3:=World.block_lt_of_cell? _ _ HD14.out;have k4:=World.block_lt_of_cell? _ _ HCG.out;have k5:=World.block_lt_of_cell? _ _ HCE.out;dsimp only at k1 k2 k3 k4 k5;rw [cell_setCell_ne (by omega),cell_setCell_ne (by omega),cell_setCell_ne (by omega),cell_setCell_ne (by omega),cell_setCell_ne (by omega)];exact ⟨hW.cell HC4.out,hW.cell HC5.out,hW.cell HD14.out,hW.cell HCG.out,hW.cell HCE.out⟩)
        have HKE:=hid_ (show ∀(W:World),Ex wd W→W.cell? ⟨B4,0,none⟩=some (.pointer (some ⟨b,0,none⟩))∧W.cell? ⟨B4 + 1,0,none⟩=some (.slice (some ⟨g,0,none⟩) R R)∧W.cell? ⟨Q,0,none⟩=some (.int .i64 s)∧W.cell? ⟨g,s,none⟩=some (.slice (some ⟨blk2 s,0,none⟩) N (cap2 s))∧W.cell? ⟨blk2 s,c,none⟩=some (.int .i64 (a2 s c)) from fun W hW=> ⟨hW.cell HC4.out,hW.cell HC5.out,hW.cell HD14.out,hW.cell HCG.out,hW.cell HCE.out⟩);have k7:=(HD.out.em.av _ HD.out.i7).1;have k4:=(HD.out.em.av _ HD.out.i4).1;have k5:=(HD.out.em.av _ HD.out.i5).1;have HEN:=hid_ (show ∀n,EB w0 (((wd.drewN n).alloc (.cells #[.int .i64 0] 3)).setCell ⟨wd.heap.size,0,none⟩ (.int .i64 (KI:Nat))) base g R N blk2 cap2 a2 (wd.heap.size :: (Q + 1) :: Q :: AV (.slice pa s pc) B4 (B4 + 1) (B4 + 1 + 1)) B4 (B4 + 1) (B4 + 1 + 1) b (.slice pa s pc) piv from fun n=> by
         have h:=(HD.out.later ((Ex.refl wd).drewN n)).box (.cells #[.int .i64 0] 3);exact h.setB (B:=wd.heap.size) (List.mem_cons_self ..) (by omega) (by omega) (by omega) (fun e=> by have:=(HD.out.em.av _ (HD.out.pvi _ e).1).1;omega) (by have:=HB4.out;omega) _)
        have HEC:=hid_ (show ∀n,(((wd.drewN n).alloc (.cells #[.int .i64 0] 3)).setCell ⟨wd.heap.size,0,none⟩ (.int .i64 (KI:Nat))).cell? ⟨wd.heap.size,0,none⟩=some (.int .i64 (KI:Nat)) from fun n=> World.cell?_setCell_same (h:=hn1 n) ..);have HEN2:=hid_ (show ∀n,EB w0 (((wd.alloc (.cells #[.int .i64 0] 3)).drewN n).setCell ⟨wd.heap.size,0,none⟩ (.int .i64 (KI:Nat))) base g R N blk2 cap2 a2 (wd.heap.size :: (Q + 1) :: Q :: AV (.slice pa s pc) B4 (B4 + 1) (B4 + 1 + 1)) B4 (B4 + 1) (B4 + 1 + 1) b (.slice pa s pc) piv from fun n=> by
         have h:=(HD.out.box (.cells #[.int .i64 0] 3)).later ((Ex.refl _).drewN n);exact h.setB (B:=wd.heap.size) (List.mem_cons_self ..) (by omega) (by omega) (by omega) (fun e=> by have:=(HD.out.em.av _ (HD.out.pvi _ e).1).1;omega) (by have:=HB4.out;omega) _)
        have HEC2:=hid_ (show ∀n,(((wd.alloc (.cells #[.int .i64 0] 3)).drewN n).setCell ⟨wd.heap.size,0,none⟩ (.int .i64 (KI:Nat))).cell? ⟨wd.heap.size,0,none⟩=some (.int .i64 (KI:Nat)) from fun n=> World.cell?_setCell_same (h:=((Ex.refl _).drewN n).cell hn3) ..);have HQW:=hid_ (show Q < wd.heap.size from World.block_lt_of_cell? _ _ HD14.out);clear k4 k5 k7
        go_cut [16,17] from 21 to 122 (fun s16 s17 wx=> s16= .pointer (some ⟨wd.heap.size,0,none⟩)∧s17= .int .i64 0∧wx.cell? ⟨Q,0,none⟩=some (.int .i64 s)∧wx.cell? ⟨wd.heap.size,0,none⟩=some (.int .i64 (KI:Nat))∧
         Hid (EB w0 wx base g R N blk2 cap2 a2 (wd.heap.size :: (Q + 1) :: Q :: AV (.slice pa s pc) B4 (B4 + 1) (B4 + 1 + 1)) B4 (B4 + 1) (B4 + 1 + 1) b (.slice pa s pc) piv))
        case first=>
         go_region_held3 (fun w'=> w'.cell? ⟨B4,0,none⟩=some (.pointer (some ⟨b,0,none⟩))∧w'.cell? ⟨B4 + 1,0,none⟩=some (.slice (some ⟨g,0,none⟩) R R)∧w'.cell? ⟨Q,0,none⟩=some (.int .i64 s)∧w'.cell? ⟨g,s,none⟩=some (.slice (some ⟨blk2 s,0,none⟩) N (cap2 s))∧w'.cell? ⟨blk2 s,c,none⟩=some (.int .i64 (a2 s c)))
          (first | with_reducible exact HKE.out _ E0 | with_reducible exact HKE.out _ ((Ex.refl wd).drewN _) | with_reducible exact HKE.out _ (((Ex.refl wd).drewN _).alloc _) | with_reducible exact HKE.out _ ((Ex.refl wd).drew.alloc _) | with_reducible exact HKE.out _ ((Ex.refl wd).alloc _).drew | with_reducible exact HKE.out _ (((Ex.refl wd).alloc _).drewN _) | with_reducible exact HKW.out _ _ (((Ex.refl wd).drewN _).alloc _) | with_reducible exact HKW.out _ _ (((Ex.refl wd).alloc _).drewN _))
          ((go_at_call 52;(first | with_reducible refine (HINV.out _ G0).mono ?_ | with_reducible refine (HINV.out _ (HD.out.ex.drewN _)).mono ?_ | with_reducible refine (HINV.out _ ((HD.out.ex.alloc _).drew)).mono ?_ | with_reducible refine (HINV.out _ ((HD.out.ex.drew).alloc _)).mono ?_ | with_reducible refine (HINV.out _ ((HD.out.ex.alloc _).drewN _)).mono ?_);rintro e wx1 ⟨rfl,n2,rfl⟩))
         all_goals
          go_wp2_with fail
          go_meet
          first
                    | with_reducible exact ⟨rfl,rfl,(HKW.out _ _ (((Ex.refl wd).drewN _).alloc _)).2.2.1,HEC.out _,hid_ (HEN.out _)⟩
                    | with_reducible exact ⟨rfl,rfl,(HKW.out _ _ (((Ex.refl wd).alloc _).drewN _)).2.2.1,HEC2.out _,hid_ (HEN2.out _)⟩
                    | exact ⟨rfl,rfl,(HKW.out _ _ (((Ex.refl wd).drewN _).alloc _)).2.2.1,HEC.out _,hid_ (HEN.out _)⟩
                    | exact ⟨rfl,rfl,(HKW.out _ _ (((Ex.refl wd).alloc _).drewN _)).2.2.1,HEC2.out _,hid_ (HEN2.out _)⟩
        case rest=>
         obtain ⟨rfl,rfl,c14,c16,heb⟩:=hcut;clear HKW HKE HEN HEN2 HEC HEC2 hn1 hn2 hn3 hn4 HCG HCE HC4 HC5 HD14 HD E0 G0 HINV;generalize wd.heap.size=Q2 at *;have HM16:=hid_ (show Q2∈Q2 :: (Q + 1) :: Q :: AV (.slice pa s pc) B4 (B4 + 1) (B4 + 1 + 1) from List.mem_cons_self ..);have HM14:=hid_ (show Q∈Q2 :: (Q + 1) :: Q :: AV (.slice pa s pc) B4 (B4 + 1) (B4 + 1 + 1) from by simp);go_upto_if 92 with fail
         go_cut [16] from 21 to 122 (fun s16 wx=> ∃(blk3 cap3:Nat→Nat) (a3:Nat→Nat→Int),s16= .pointer (some ⟨Q2,0,none⟩)∧wx.cell? ⟨Q,0,none⟩=some (.int .i64 s)∧
          Hid (EB w0 wx base g R N blk3 cap3 a3 (Q2 :: (Q + 1) :: Q :: AV (.slice pa s pc) B4 (B4 + 1) (B4 + 1 + 1)) B4 (B4 + 1) (B4 + 1 + 1) b (.slice pa s pc) piv)∧Hid (PV p m R N a3 piv c)∧Hid (∀x,Sol p m ml N R a3 x↔Sol p m ml N R a x)∧Hid (a3 s c=1))
         case first=>
          by_cases hK1:KI=1
          ·have hq5:(((KI:Nat):Int) !=1)=false:=by simp [hK1]
           have HONE:=hid_ (show a2 s c=1 from by
            obtain ⟨k1,k2,k3,k4,k5⟩:=HKI.out;rw [hK1,kmul_one p2 m1 k5] at k1;rw [k3,k1];rfl)
           clear hK1;go_wp2_with fail
           go_meet
           exact ⟨blk2,cap2,a2,rfl,c14,heb,hpv2,hsol2,HONE⟩
          ·have hq5:(((KI:Nat):Int) !=1)=true:=by simp;omega
           have HE:=hid_ (each_scl w0 wc HG.out heb.out.ex heb.out.em heb.out.bs (by omega) (B4 + 1) (B4 + 1 + 1) B4 Q2 Q s (KI:Nat) hsR heb.out.i7 heb.out.i4 HM16.out HM14.out heb.out.c5 heb.out.c7 heb.out.c4 c16 c14);rw [kin_of HKI.out.2.1] at HE;have HPV3:=hid_ (show PV p m R N (upd a2 s (sclF p m ml KI (a2 s))) piv c from by have:=hpv2.out.scl (ml:=ml) (by omega) (by rw [HS.out];exact hsR) (k:=KI);rw [HS.out] at this;exact this);have HSOL3:=hid_ (show ∀x,Sol p m ml N R (upd a2 s (sclF p m ml KI (a2 s))) x↔Sol p m ml N R a x from fun x=> (Sol.scl p2 m1 HF.out hsR (by
            have k1:=HKI.out.1;by_cases e:KI=0
            ·rw [e,kmul_zero_r (by omega)] at k1;omega
            ·omega) HKI.out.2.1).trans (hsol2.out x))
           have HONE:=hid_ (show upd a2 s (sclF p m ml KI (a2 s)) s c=1 from by
            rw [upd_same];unfold sclF;rw [HKI.out.2.2.2.1,kmul_comm,HKI.out.1];rfl)
           have C14:=hid_ c14;clear hK1 c14 c16;go_wp2_with (go_at_call 178;refine HE.out.mono ?_;rintro e wx hstp;obtain ⟨⟨t,rfl⟩,_⟩:=id hstp;obtain ⟨blk3,cap3,hb3⟩:=heb.out.step hstp;have c14n:=hstp.2.2.1.cell HM14.out C14.out;have HB3:=hid_ hb3;clear hstp hb3)
           go_meet
           exact ⟨blk3,cap3,_,rfl,c14n,HB3,HPV3,HSOL3,HONE⟩
         case rest=>
          obtain ⟨blk3,cap3,a3,rfl,c14,heb,hpv3,hsol3,hone⟩:=hcut;have hpm:∀B,(Value.slice pa s pc).ownBlock=some B→B∈Q :: AV (.slice pa s pc) B4 (B4 + 1) (B4 + 1 + 1):=fun B hB=> by
           unfold AV;rw [hB];simp
          have HL:=hid_ (heb.out.less (bvs:=Q :: AV (.slice pa s pc) B4 (B4 + 1) (B4 + 1 + 1)) (fun B hB=> List.mem_cons_of_mem _ (List.mem_cons_of_mem _ hB)) (by unfold AV;simp) (by unfold AV;simp) (by unfold AV;simp) hpm);have c5:=heb.out.c5;have HMP:=hid_ hpm;have HALL:=hid_ (show ∀i',i' < 0→i'≠s→a3 i' c=0 from fun i' h=> by omega);clear heb hpm hnz2 hsol2 hpv2 HKI HM16 HM14 HQW;go_wp2_with fail
          clear c5
          go_loopw [98] (fun i' wr=> ∃(i:Nat) (blk4 cap4:Nat→Nat) (a4:Nat→Nat→Int),i≤R∧i'= .int .i64 i∧wr.cell? ⟨Q,0,none⟩=some (.int .i64 s)∧Hid (EB w0 wr base g R N blk4 cap4 a4 (Q :: AV (.slice pa s pc) B4 (B4 + 1) (B4 + 1 + 1)) B4 (B4 + 1) (B4 + 1 + 1) b (.slice pa s pc) piv)∧Hid (PV p m R N a4 piv c)∧Hid (∀x,Sol p m ml N R a4 x↔Sol p m ml N R a x)∧Hid (a4 s c=1)∧Hid (∀i',i' < i→i'≠s→a4 i' c=0)) (fun i' _=> R - (intOf i').toNat)
          case atStart=> exact ⟨0,blk3,cap3,a3,by omega,rfl,c14,HL,hpv3,hsol3,hone,HALL⟩
          case round=>
           clear HL hpv3 hsol3 hone HALL c14;obtain ⟨i,blk4,cap4,a4,hi,rfl,c14,heb,hpv4,hsol4,hone,hall⟩:=hrel;by_cases hiR:i < R
           ·obtain ⟨P,hP⟩:∃P,wr.heap.size=P:=⟨_,rfl⟩;have hP1:(wr.alloc (.cells #[.int .i64 i] 3)).heap.size=P + 1:=by simp [hP]
            have hb1:=heb.out.box (.cells #[.int .i64 i] 3);have hb2:=hb1.box (.cells #[.int .i64 (a4 i c)] 3);rw [hP1,hP] at hb2;rw [hP] at hb1;have eA:Ex wr (wr.alloc (.cells #[.int .i64 i] 3)):=(Ex.refl wr).alloc _;have d5:=hb1.c5;have d18:(wr.alloc (.cells #[.int .i64 i] 3)).cell? ⟨P,0,none⟩=some (.int .i64 i):=alloc1_cell _ _ _ hP;have dg:=hb1.em.cell hiR;have de:=hb1.em.ent hiR hcN;have c18:((wr.alloc (.cells #[.int .i64 i] 3)).alloc (.cells #[.int .i64 (a4 i c)] 3)).cell? ⟨P,0,none⟩=some (.int .i64 i):=((Ex.refl _).alloc _).cell d18;have c19:((wr.alloc (.cells #[.int .i64 i] 3)).alloc (.cells #[.int .i64 (a4 i c)] 3)).cell? ⟨P + 1,0,none⟩=some (.int .i64 (a4 i c)):=alloc1_cell _ _ _ hP1;have c14n:((wr.alloc (.cells #[.int .i64 i] 3)).alloc (.cells #[.int .i64 (a4 i c)] 3)).cell? ⟨Q,0,none⟩=some (.int .i64 s):=(eA.alloc _).cell c14;have HB2:=hid_ hb2;have C18:=hid_ c18;have C19:=hid_ c19;have C14N:=hid_ c14n;have j1:(0:Int)≤(i:Int):=by omega
            have j2:(i:Int) < (R:Int):=by omega
            clear hb1 hb2 heb eA c14 c18 c19 c14n;go_upto_region 23 with fail
            clear d5 d18 dg de;generalize (wr.alloc (.cells #[.int .i64 i] 3)).alloc (.cells #[.int .i64 (a4 i c)] 3)=W3 at *;clear hP hP1;have c14:=C14N.out;have c18:=C18.out;have c19:=C19.out;have HLS:=hid_ (show ∀(wy:World) (blk5 cap5:Nat→Nat) (a5:Nat→Nat→Int),EB w0 wy base g R N blk5 cap5 a5 ((P + 1) :: P :: Q :: AV (.slice pa s pc) B4 (B4 + 1) (B4 + 1 + 1)) B4 (B4 + 1) (B4 + 1 + 1) b (.slice pa s pc) piv→EB w0 wy base g R N blk5 cap5 a5 (Q :: AV (.slice pa s pc) B4 (B4 + 1) (B4 + 1 + 1)) B4 (B4 + 1) (B4 + 1 + 1) b (.slice pa s pc) piv from fun wy blk5 cap5 a5 h=> h.less (fun B hB=> List.mem_cons_of_mem _ (List.mem_cons_of_mem _ hB)) (by unfold AV;simp) (by unfold AV;simp) (by unfold AV;simp) HMP.out);by_cases his:i=s
            ·have b1:((i:Int) !=(s:Int))=false:=by simp [his]
             have b2:(i !=s)=false:=by simp [his]
             have HALL:=hid_ (show ∀i',i' < i + 1→i'≠s→a4 i' c=0 from fun i' h hne=> hall.out i' (by omega) hne);have HB5:=hid_ (HLS.out _ _ _ _ HB2.out);clear his hall;go_wp2_with fail
             go_roundw
             case rel=> first | exact ⟨i + 1,blk4,cap4,a4,by omega,by go_num,c14,HB5,hpv4,hsol4,hone,HALL⟩ | ((repeat apply Exists.intro);exact ⟨⟨i + 1,blk4,cap4,a4,by omega,by go_num,c14,HB5,hpv4,hsol4,hone,HALL⟩,rfl⟩)
             case measure=> simp [intOf];omega
            ·have b1:((i:Int) !=(s:Int))=true:=by simp;omega
             have b2:(i !=s)=true:=by simp;omega
             by_cases hx0:a4 i c=0
             ·have b3:(a4 i c !=0)=false:=by simp [hx0]
              have HALL:=hid_ (show ∀i',i' < i + 1→i'≠s→a4 i' c=0 from fun i' h hne=> by
               by_cases e:i'=i
               ·rw [e];exact hx0
               ·exact hall.out i' (by omega) hne)
              have HB5:=hid_ (HLS.out _ _ _ _ HB2.out);clear his hall hx0;go_wp2_with fail
              go_roundw
              case rel=> first | exact ⟨i + 1,blk4,cap4,a4,by omega,by go_num,c14,HB5,hpv4,hsol4,hone,HALL⟩ | ((repeat apply Exists.intro);exact ⟨⟨i + 1,blk4,cap4,a4,by omega,by go_num,c14,HB5,hpv4,hsol4,hone,HALL⟩,rfl⟩)
              case measure=> simp [intOf];omega
             ·have b3:(a4 i c !=0)=true:=by simpa using hx0
              have HE:=hid_ (each_add w0 W3 HG.out HB2.out.ex HB2.out.em HB2.out.bs (by omega) (B4 + 1) (B4 + 1 + 1) B4 P (P + 1) Q s i (a4 i c) hsR hiR his HB2.out.i7 HB2.out.i4 (by simp) (by simp) (by simp) HB2.out.c5 HB2.out.c7 HB2.out.c4 c18 c19 c14);obtain ⟨KN,hKN⟩:∃K,kneg p m (kin (p ^ m) (a4 i c))=K:=⟨_,rfl⟩;have hq1:1 < p ^ m:=one_lt_q p2 m1;have HVAL:=hid_ (show addF p m ml (a4 i) KN (a4 s) c=0 from by
               unfold addF;have k1:kin (p ^ m) 1=1:=kin_of (q:=p ^ m) (x:=1) hq1;rw [hone.out,if_neg (by omega),k1,kmul_one p2 m1 (by rw [←hKN];exact kneg_lt (by omega) _),←hKN,kadd_kneg (by omega)];rfl)
              rw [hKN] at HE;have HPV5:=hid_ (show PV p m R N (upd a4 i (addF p m ml (a4 i) KN (a4 s))) piv c from by have:=hpv4.out.add (ml:=ml) (by omega) (by rw [HS.out];exact hsR) hiR (by rw [HS.out];exact his) (k:=KN);rw [HS.out] at this;exact this);have HSOL5:=hid_ (show ∀x,Sol p m ml N R (upd a4 i (addF p m ml (a4 i) KN (a4 s))) x↔Sol p m ml N R a x from fun x=> (Sol.add p2 hsR hiR his).trans (hsol4.out x));have HONE5:=hid_ (show upd a4 i (addF p m ml (a4 i) KN (a4 s)) s c=1 from by rw [upd_ne _ _ (fun e=> his e.symm)];exact hone.out);have HALL5:=hid_ (show ∀i',i' < i + 1→i'≠s→upd a4 i (addF p m ml (a4 i) KN (a4 s)) i' c=0 from fun i' h hne=> by
               by_cases e:i'=i
               ·rw [e,upd_same];exact HVAL.out
               ·rw [upd_ne _ _ e];exact hall.out i' (by omega) hne)
              clear his hall hx0 hKN hq1;go_wp2_with (go_at_call 178;refine HE.out.mono ?_;rintro e wx hstp;obtain ⟨⟨t,rfl⟩,_⟩:=id hstp;obtain ⟨blk5,cap5,hb5⟩:=HB2.out.step hstp;have c14n:=hstp.2.2.1.cell (show Q∈(P + 1) :: P :: Q :: AV (.slice pa s pc) B4 (B4 + 1) (B4 + 1 + 1) by simp) C14N.out;have HB5:=hid_ (HLS.out _ _ _ _ hb5);clear hstp hb5)
              go_roundw
              case rel=> first | exact ⟨i + 1,blk5,cap5,_,by omega,by go_num,c14n,HB5,HPV5,HSOL5,HONE5,HALL5⟩ | ((repeat apply Exists.intro);exact ⟨⟨i + 1,blk5,cap5,_,by omega,by go_num,c14n,HB5,HPV5,HSOL5,HONE5,HALL5⟩,rfl⟩)
              case measure=> simp [intOf];omega
           ·obtain rfl:R=i:=by omega
            have HPD:=hid_ (show PV p m R N a4 (piv ++ [c]) (c + 1) from hpv4.out.done (by rw [HS.out];exact hsR) (by rw [HS.out];exact hone.out) fun i hi hne=> hall.out i hi (by rw [←HS.out];exact hne));have HWS:=hid_ (show base≤wr.heap.size from by have:=heb.out.em.arr.lt;omega);have hp256:piv.length≤256:=by omega
            have hP:=hid_ heb.out.pvo;clear hall c14;go_wp2_with (at_builtin;refine wpList_append1 _ rfl _ _ 22 rfl base 3 (.int .i64 0) 1 8 Tryz.underlying22 infoInt rfl (by decide) _ piv.length _ rfl hP.out [.int .i64 c] 3 _ rfl (by simp) rfl (by simp [Value.oneCell']) (by unfold maxLen;omega) (by omega) HWS.out ?_)
            intro v2 w2 happ;have HNB:=hid_ ((heb.out.less (bvs:=AV (.slice pa s pc) B4 (B4 + 1) (B4 + 1 + 1)) (fun B hB=> List.mem_cons_of_mem _ hB) (by unfold AV;simp) (by unfold AV;simp) (by unfold AV;simp) (fun B hB=> by unfold AV;rw [hB];simp)).app happ);obtain ⟨va,vc,hv2⟩:=own_shape happ.own;subst hv2;clear happ heb hP;go_wp2_with fail
            go_roundw
            case rel=> first | exact ⟨c + 1,piv ++ [c],_,blk4,cap4,a4,by omega,by go_num,rfl,HNB,HPD,hsol4⟩ | ((repeat apply Exists.intro);exact ⟨⟨c + 1,piv ++ [c],_,blk4,cap4,a4,by omega,by go_num,rfl,HNB,HPD,hsol4⟩,rfl⟩)
            case measure=> simp [intOf];omega
     ·obtain rfl:R=k:=by omega
      have HPN:=hid_ (HPV.out.none fun k' h1 h2=> hzz.out k' (by rw [←HS.out];exact h1) h2);have HB3:=hid_ heb.out.toAV;have hb3:decide ((R:Int) < (R:Int))=false:=by simp
      have hb4:((R:Int)==(R:Int))=true:=by simp
      clear heb hzz f15 c14;go_wp2_with fail
      go_roundw
      case rel=> first | exact ⟨c + 1,piv,det,blk1,cap1,a1,by omega,by go_num,rfl,HB3,HPN,hsol⟩ | ((repeat apply Exists.intro);exact ⟨⟨c + 1,piv,det,blk1,cap1,a1,by omega,by go_num,rfl,HB3,HPN,hsol⟩,rfl⟩)
      case measure=> simp [intOf];omega
   ·have hex:piv.length=R:=by omega
    have b3:decide ((piv.length:Int) < (R:Int))=false:=by simp;omega
    have b4:decide (piv.length < R)=false:=by simp;omega
    have HE:=hid_ (HEX.out (.inl hex));have HXX:=hid_ heb.out.ex;have HPB:=hid_ (fun B e=> (heb.out.pvo.lt B e).1);clear hex HEX hpR heb;go_wp2_with fail
    go_ret2;exact ⟨piv,_,_,_,_,_,rfl,HEM.out,HE.out,HIS.out,HXX.out,HPB.out⟩
  ·have hex:c=N:=by omega
   have b1:decide ((c:Int) < (N:Int))=false:=by simp;omega
   have b2:decide (c < N)=false:=by simp;omega
   have HE:=hid_ (HEX.out (.inr hex));have HXX:=hid_ heb.out.ex;have HPB:=hid_ (fun B e=> (heb.out.pvo.lt B e).1);clear hex HEX heb;go_wp2_with fail
   go_ret2;exact ⟨piv,_,_,_,_,_,rfl,HEM.out,HE.out,HIS.out,HXX.out,HPB.out⟩
end Go.Proofs.YtgdmlmhpineibaaGreat
