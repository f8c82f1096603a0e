/- Walks of the field's Pow, Field, Sub, Order, of tower.prime and tower.Frobenius. -/
import Derived.Deep.RegionHeld3
import Derived.Test.YtgdmlmhpineibaaGreatZg08
import Derived.Test.YtgdmlmhpineibaaGreatZg12
import Derived.Test.YtgdmlmhpineibaaGreatZg13
import Derived.Test.YtgdmlmhpineibaaGreatZg16
namespace Go.Proofs.YtgdmlmhpineibaaGreat
set_option linter.unusedVariables false
set_option linter.unusedSimpArgs false
set_option maxRecDepth 100000
set_option maxHeartbeats 4000000
section
open Go.RowKit
theorem kpw_kpw {p m:Nat} {low:Vc} (hp:2≤p) (hm:1≤m) (x i:Nat):∀e,kpw p m low (kpw p m low x i) e=kpw p m low x (i * e)
 | 0=> rfl
 | e + 1=> by
  show kmul p m low (kpw p m low (kpw p m low x i) e) (kpw p m low x i)=_
  rw [kpw_kpw hp hm x i e,←kpw_add hp hm,Nat.mul_succ]
theorem kpw_zero {p m:Nat} {low:Vc} (hp:1≤p):∀e,1≤e→kpw p m low 0 e=0
 | e + 1,_=> by
  show kmul p m low _ 0=0
  rw [kmul_comm,kmul_zero hp]
section
variable {b p m x0:Nat} {ml:List Int}
theorem Pow_any (w:World) (hg:GFat w b p m ml x0) (x:Int) (e:Nat) (he1:1≤e) (he2:e≤1000):
  Calls Tryz.prog 93 #[.pointer (some ⟨b,0,none⟩),.int .i64 x,.int .i64 e] w (Qt w (.tuple #[.int .i64 (kpw p m (lw ml) (kin (p ^ m) x) e:Nat),.int .i64 0])):=by
 have HI0:=hid_ (in_any w hg x);have p2:=hg.sh.p2;have m1:=hg.sh.m1;have hq:=hg.sh.q;have hq1:=one_lt_q p2 m1;have c3:=hg.c3;obtain ⟨ev,c4,he⟩:=hg.c4;obtain ⟨lv,f,c5,hl,hf⟩:=hg.c5;obtain ⟨ea,ec,rfl,e1,e2,e3⟩:=he.open;obtain ⟨la,lc,rfl,l1,l2,l3⟩:=hl.open;rw [il_length] at *;obtain ⟨eb,eo,rfl,e4⟩:=e3 (by omega);obtain ⟨lb,lo,rfl,l4⟩:=l3 (by omega);have hz:kin (p ^ m) x < p ^ m:=kin_lt (by omega) x;clear e3 l3 he hl;unfold maxLen at e2 l2;generalize kin (p ^ m) x=z at *;have he0:((e:Int)==0)=false:=by simp;omega
 have heN:(e==0)=false:=by simp;omega
 have hel:decide ((e:Int) < 0)=false:=decide_eq_false (by omega);by_cases h0:z=0
 ·subst h0;have HZ:=hid_ (kpw_zero (m:=m) (low:=lw ml) (show 1≤p by omega) e he1);clear hg c3 c4 c5 hz hq hq1 hf e4 l4 e1 e2 l1 l2;go_enter Tryz.func93,Tryz.ntmps93
  go_wp2_with fail
  refine HI0.out.mono ?_;rintro e w1 ⟨rfl,n0,rfl⟩;go_wp2_with fail
  go_ret2;rw [HZ.out];exact ⟨rfl,_,rfl⟩
 ·have z1:1≤z:=by omega
  have hzb:((z:Int)==0)=false:=by simp;omega
  obtain ⟨i,hi,hzi⟩:=hg.gen.all p2 m1 z1 hz;have hlz:=l4 z (f z) (il_get hz f);have hfz:=hf i hi;rw [hzi] at hfz;rw [hfz] at hlz;obtain ⟨d,hd⟩:∃d,e % (p ^ m - 1)=d:=⟨_,rfl⟩;have hdq:d < p ^ m - 1:=by rw [←hd];exact Nat.mod_lt _ (by omega)
  obtain ⟨r,hr⟩:∃r,(i * d) % (p ^ m - 1)=r:=⟨_,rfl⟩;have hrq:r < p ^ m - 1:=by rw [←hr];exact Nat.mod_lt _ (by omega)
  have her:=e4 r _ (il_get hrq _);have hpr:pwI p m ml x0 r=((kpw p m (lw ml) z e:Nat):Int):=by
   unfold pwI;rw [←hzi,kpw_kpw p2 m1,←hg.gen.mod p2 m1 (i * e),←hr,←hd,Nat.mul_mod,Nat.mod_mod,←Nat.mul_mod]
  rw [hpr] at her;have T1:Hid ((e:Int).tmod (((p ^ m:Nat):Int) - 1)=(d:Int)):=hid_ (by
   rw [Int.tmod_eq_emod_of_nonneg (by omega),←hd,Int.natCast_emod]
   congr 1
   omega)
  have T2:Hid (((d:Int) + (((p ^ m:Nat):Int) - 1)).tmod (((p ^ m:Nat):Int) - 1)=(d:Int)):=hid_ (by
   rw [Int.tmod_eq_emod_of_nonneg (by omega),Int.add_emod_right];exact Int.emod_eq_of_lt (by omega) (by omega))
  have T3:Hid (((i:Int) * d).tmod (((p ^ m:Nat):Int) - 1)=(r:Int)):=hid_ (by
   rw [Int.tmod_eq_emod_of_nonneg (by rw [←Int.natCast_mul];omega),←hr,Int.natCast_emod,Int.natCast_mul]
   congr 1
   omega)
  have HID:(i:Int) * (d:Int)≤256 * 256:=by
   have:=Nat.mul_le_mul (show i≤256 by omega) (show d≤256 by omega);rw [←Int.natCast_mul];omega
  have HID0:0≤(i:Int) * (d:Int):=by rw [←Int.natCast_mul];omega
  generalize kpw p m (lw ml) z e=kz at *;generalize p ^ m=q at *;have C3:=hid_ c3;have C4:=hid_ c4;have C5:=hid_ c5;clear hg hf e4 l4 hfz hzi hd hr hpr h0 c3 c4 c5;go_enter Tryz.func93,Tryz.ntmps93
  go_wp2_with fail
  refine HI0.out.mono ?_;rintro e w1 ⟨rfl,n0,rfl⟩;have c3:=C3.out;have c4:=C4.out;have c5:=C5.out;have i0:=T1.out;have i1:IntKind.i64.wrap ((d:Int) + ((q:Int) - 1))=(d:Int) + ((q:Int) - 1):=IntWalk.i64_in _ (by omega);have i2:IntKind.i64.wrap ((q:Int) - 1)=(q:Int) - 1:=IntWalk.i64_in _ (by omega);have i3:=T2.out;have i6:=T3.out;have i7:IntKind.i64.wrap ((i:Int) * (d:Int))=(i:Int) * (d:Int):=IntWalk.i64_in _ (by omega);have i4:¬q=1:=by omega
  have i5:¬((q:Int) - 1=0):=by omega
  go_wp2_with fail
  go_quiet (fail)
  go_wp2_with fail
  go_ret2;exact ⟨rfl,_,World.drewN_drewN _ _ _⟩
theorem Field_any (w:World) (hg:GFat w b p m ml x0):
  Calls Tryz.prog 140 #[.pointer (some ⟨b,0,none⟩)] w fun r w'=> ∃v,r= .returned (.agg #[.int .i64 p,.int .i64 m,v])∧ISl w' v ml∧Ex w w':=by
 obtain ⟨mv,hc2,hmv⟩:=hg.c2;have hln:ml.length≤8:=by
  have h1:=hg.sh.len;have h2:=hg.sh.m8;split at h1 <;> omega
 have ea:Ex w (w.alloc (.cells #[.int .i64 0,.int .i64 0,.slice none 0 0] 24)):=(Ex.refl _).alloc _;have q0:(w.alloc (.cells #[.int .i64 0,.int .i64 0,.slice none 0 0] 24)).cell? ⟨w.heap.size,0,none⟩=some (.int .i64 0):=by simp
 have q1:(w.alloc (.cells #[.int .i64 0,.int .i64 0,.slice none 0 0] 24)).cell? ⟨w.heap.size,1,none⟩=some (.int .i64 0):=by simp
 have q2:(w.alloc (.cells #[.int .i64 0,.int .i64 0,.slice none 0 0] 24)).cell? ⟨w.heap.size,2,none⟩=some (.slice none 0 0):=by simp
 have qf0:(w.alloc (.cells #[.int .i64 0,.int .i64 0,.slice none 0 0] 24)).frozen? ⟨w.heap.size,0,none⟩=false:=by simp
 have qf1:(w.alloc (.cells #[.int .i64 0,.int .i64 0,.slice none 0 0] 24)).frozen? ⟨w.heap.size,1,none⟩=false:=by simp
 have qf2:(w.alloc (.cells #[.int .i64 0,.int .i64 0,.slice none 0 0] 24)).frozen? ⟨w.heap.size,2,none⟩=false:=by simp
 have HMV:=hid_ (hmv.ex ea);have c0:=ea.cell hg.c0;have c1:=ea.cell hg.c1;have c2:=ea.cell hc2;obtain ⟨ma,mc,rfl,_,m2,_⟩:=hmv.open;unfold maxLen at m2;clear hmv hc2 hg;go_enter Tryz.func140,Tryz.ntmps140
 go_wp2_with fail
 obtain ⟨q,hq⟩:∃q,w.heap.size=q:=⟨_,rfl⟩;rw [hq] at q0 q1 q2 qf0 qf1 qf2
 try simp only [hq]
 have HQ:=hid_ hq;clear hq;generalize w.alloc (.cells #[.int .i64 0,.int .i64 0,.slice none 0 0] 24)=W1 at *;have HEA:=hid_ ea;have Q0:=hid_ q0;have Q1:=hid_ q1;have Q2:=hid_ q2;have QF0:=hid_ qf0;have QF1:=hid_ qf1;have QF2:=hid_ qf2;have x0':=((Ex.refl W1).alloc (.cells #[] 3)).cell c0;have x1':=((Ex.refl W1).alloc (.cells #[] 3)).cell c1;have x2':=((Ex.refl W1).alloc (.cells #[] 3)).cell c2;clear q0 q1 q2 qf0 qf1 qf2 ea
 go_region_law ((refine step_append_sl (by rfl) _ _ _ (by rfl) W1.heap.size 3 (.int .i64 0) 1 8 Tryz.underlying22 infoInt rfl (by decide) _ 0 [] (by rfl) (ownsRow_ex (own_lit0 W1 _) (by repeat (first | exact Ex.refl _ | apply Ex.drew))) _ ml.length (ints ml) (by rfl) (HMV.out.ex (by repeat (first | exact Ex.refl _ | apply Ex.drew | apply Ex.alloc))) (by intro u hu;obtain ⟨z,_,rfl⟩:=List.mem_map.1 hu;rfl) (by unfold maxLen;omega) (by omega) (by simp) ?_;intro v8 w8 hown8 hg8 ha8;obtain ⟨va,vcap,hv8⟩:=own_shape hown8;subst hv8;have E8:=hid_ (Ex.grown (((Ex.refl W1).alloc (.cells #[] 3)).drew) (ownsRow_ex (own_lit0 W1 3) (Ex.refl _).drew) (Nat.le_refl _) hg8);have y0:=E8.out.cell c0;have y1:=E8.out.cell c1;have y2:=E8.out.cell c2;have q0:=E8.out.cell Q0.out;have q1:=E8.out.cell Q1.out;have q2:=E8.out.cell Q2.out;have qf0:=E8.out.frz Q0.out QF0.out;have qf1:=E8.out.frz Q1.out QF1.out;have qf2:=E8.out.frz Q2.out QF2.out;have HOW:=hid_ hown8;clear hown8 hg8 ha8))
 all_goals
  have HI8:=hid_ (show ISl w8 (.slice va ml.length vcap) ml from by have:=isl_own HOW.out;rwa [Nat.zero_add] at this);have hqo:∀B,(Value.slice va ml.length vcap).ownBlock=some B→B≠q:=fun B h e=> by
   have h1:=(HOW.out.lt B (by rw [Nat.zero_add];exact h)).1;have h2:q < W1.heap.size:=World.block_lt_of_cell? _ _ Q0.out;omega
  have HQO:=hid_ hqo;have HQW:=hid_ (show w.heap.size≤q from Nat.le_of_eq HQ.out);clear hqo c0 c1 c2 x0' x1' x2' y0 y1 y2;go_wp2_with fail
  exact bodyPost_ret (v:= .agg #[.int .i64 p,.int .i64 m,.slice va ml.length vcap]) (by simp [results,Tryz.results140,go_sem,q0,q1,q2]) rfl ⟨_,rfl,Sl.other (Sl.other (Sl.other HI8.out (fun B h=> HQO.out B h) _) (fun B h=> HQO.out B h) _) (fun B h=> HQO.out B h) _,(((HEA.out.trans E8.out).setCell (p:=⟨q,0,none⟩) HQW.out _).setCell (p:=⟨q,1,none⟩) HQW.out _).setCell (p:=⟨q,2,none⟩) HQW.out _⟩
end
end
section
open Go.RowKit
def pI (piv:List Nat):List Int:=piv.map fun (x:Nat)=> (x:Int)
theorem pI_len (piv:List Nat):(pI piv).length=piv.length:=by unfold pI;simp
theorem ownsRow_heap {w w':World} {base:Nat} {e:TypeId} {size:Nat} {v:Value} {n:Nat} {xs:List Value} (h:w.ownsRow base e size v n xs) (hk:∀b,v.ownBlock=some b→w'.heap[b]?=w.heap[b]?):w'.ownsRow base e size v n xs:=by
 refine ⟨h.1,?_⟩;rcases h.2 with h1 | ⟨g,cap,cur,rfl,hb,hg,h3⟩
 ·exact .inl h1
 ·exact .inr ⟨g,cap,cur,rfl,hb,by rw [hk g rfl];exact hg,h3⟩
def AV (pv:Value) (B4 B5 B7:Nat):List Nat:=pv.ownBlock.toList ++ [B4,B5,B7]
structure EB (w0 w:World) (base g R N:Nat) (blk cap:Nat→Nat) (a:Nat→Nat→Int) (avs:List Nat) (B4 B5 B7 b:Nat) (pv:Value) (piv:List Nat):Prop where
 em:EM w base g R N blk cap a avs
 i4:B4∈avs
 i5:B5∈avs
 i7:B7∈avs
 c4:w.cell? ⟨B4,0,none⟩=some (.pointer (some ⟨b,0,none⟩))
 c5:w.cell? ⟨B5,0,none⟩=some (.slice (some ⟨g,0,none⟩) R R)
 c7:w.cell? ⟨B7,0,none⟩=some (.slice none 0 0)
 pvo:w.ownsRow base 3 1 pv piv.length (ints (pI piv))
 pvi:∀B,pv.ownBlock=some B→B∈avs∧B≠B4∧B≠B5∧B≠B7
 ex:Ex w0 w
 bs:w0.heap.size≤base
section
variable {w0 w:World} {base g R N:Nat} {blk cap:Nat→Nat} {a:Nat→Nat→Int} {avs:List Nat} {B4 B5 B7 b:Nat} {pv:Value} {piv:List Nat}
theorem EB.later (h:EB w0 w base g R N blk cap a avs B4 B5 B7 b pv piv) {w':World} (hx:Ex w w'):EB w0 w' base g R N blk cap a avs B4 B5 B7 b pv piv:=
 ⟨h.em.ex hx,h.i4,h.i5,h.i7,hx.cell h.c4,hx.cell h.c5,hx.cell h.c7,ownsRow_ex h.pvo hx,h.pvi,h.ex.trans hx,h.bs⟩
theorem EB.box (h:EB w0 w base g R N blk cap a avs B4 B5 B7 b pv piv) (o:Obj):EB w0 (w.alloc o) base g R N blk cap a (w.heap.size :: avs) B4 B5 B7 b pv piv:=by
 have h1:=h.later ((Ex.refl w).alloc o);exact ⟨h.em.box o,List.mem_cons_of_mem _ h.i4,List.mem_cons_of_mem _ h.i5,List.mem_cons_of_mem _ h.i7,h1.c4,h1.c5,h1.c7,h1.pvo,fun B hB=> by obtain ⟨k1,k2⟩:=h.pvi B hB;exact ⟨List.mem_cons_of_mem _ k1,k2⟩,h1.ex,h1.bs⟩
theorem EB.less (h:EB w0 w base g R N blk cap a avs B4 B5 B7 b pv piv) {bvs:List Nat} (hs:∀B∈bvs,B∈avs) (h4:B4∈bvs) (h5:B5∈bvs) (h7:B7∈bvs) (hp:∀B,pv.ownBlock=some B→B∈bvs):EB w0 w base g R N blk cap a bvs B4 B5 B7 b pv piv:=
 ⟨h.em.less hs,h4,h5,h7,h.c4,h.c5,h.c7,h.pvo,fun B hB=> ⟨hp B hB,(h.pvi B hB).2⟩,h.ex,h.bs⟩
theorem EB.toAV (h:EB w0 w base g R N blk cap a avs B4 B5 B7 b pv piv):EB w0 w base g R N blk cap a (AV pv B4 B5 B7) B4 B5 B7 b pv piv:=by
 refine h.less (fun B hB=> ?_) (by unfold AV;simp) (by unfold AV;simp) (by unfold AV;simp) (fun B hB=> by unfold AV;rw [hB];simp);unfold AV at hB;rcases List.mem_append.1 hB with hB | hB
 ·have:pv.ownBlock=some B:=by
   cases e:pv.ownBlock with
   | none=> rw [e] at hB;simp at hB
   | some C=> rw [e] at hB;simp at hB;rw [hB]
  exact (h.pvi B this).1
 ·simp at hB;rcases hB with rfl | rfl | rfl
  ·exact h.i4
  ·exact h.i5
  ·exact h.i7
theorem EB.step (h:EB w0 w base g R N blk cap a avs B4 B5 B7 b pv piv) {a':Nat→Nat→Int} {r:Ending} {w':World} (hs:Stp w base g R N a' avs r w'):∃blk' cap',EB w0 w' base g R N blk' cap' a' avs B4 B5 B7 b pv piv:=by
 obtain ⟨_,⟨blk',cap',he⟩,hk,hx⟩:=hs;exact ⟨blk',cap',he,h.i4,h.i5,h.i7,hk.cell h.i4 h.c4,hk.cell h.i5 h.c5,hk.cell h.i7 h.c7,ownsRow_heap h.pvo fun B hB=> hk B (h.pvi B hB).1,h.pvi,hx w0 h.ex h.bs,h.bs⟩
theorem EB.setB (h:EB w0 w base g R N blk cap a avs B4 B5 B7 b pv piv) {B:Nat} (hB:B∈avs) (h4:B≠B4) (h5:B≠B5) (h7:B≠B7) (hp:pv.ownBlock≠some B) (hw:w0.heap.size≤B) (u:Value):EB w0 (w.setCell ⟨B,0,none⟩ u) base g R N blk cap a avs B4 B5 B7 b pv piv:=
 ⟨h.em.setBox hB u,h.i4,h.i5,h.i7,by rw [cell_setCell_ne h4];exact h.c4,by rw [cell_setCell_ne h5];exact h.c5,by rw [cell_setCell_ne h7];exact h.c7,ownsRow_setCell_ne h.pvo hp u,h.pvi,h.ex.setCell (p:=⟨B,0,none⟩) hw u,h.bs⟩
theorem EB.app (h:EB w0 w base g R N blk cap a avs B4 B5 B7 b pv piv) {c:Nat} {w':World} {pv':Value} (ha:Appd w w' base 3 1 pv pv' piv.length (ints (pI piv)) [.int .i64 c]):EB w0 w' base g R N blk cap a (AV pv' B4 B5 B7) B4 B5 B7 b pv' (piv ++ [c]):=by
 have hne:∀B∈avs,(∀C,pv.ownBlock=some C→C≠B)→some B≠pv.ownBlock:=fun B _ hn e=> hn B e.symm rfl;have n4:some B4≠pv.ownBlock:=fun e=> (h.pvi B4 e.symm).2.1 rfl;have n5:some B5≠pv.ownBlock:=fun e=> (h.pvi B5 e.symm).2.2.1 rfl;have n7:some B7≠pv.ownBlock:=fun e=> (h.pvi B7 e.symm).2.2.2 rfl;have ng:pv.ownBlock≠some g:=fun e=> (h.em.av g (h.pvi g e).1).2.1 rfl;have nb:∀i,i < R→pv.ownBlock≠some (blk i):=fun i hi e=> (h.em.av _ (h.pvi _ e).1).2.2 i hi rfl;have hsz:=ha.grow;have l4:=(h.em.av B4 h.i4);have l5:=(h.em.av B5 h.i5);have l7:=(h.em.av B7 h.i7);have pnew:∀B,pv'.ownBlock=some B→(pv.ownBlock=some B)∨B=w.heap.size + 1:=fun B hB=> by
  rcases ha.at_ with k | k
  ·exact .inl (by rw [←k];exact hB)
  ·rw [k] at hB;injection hB with hB;exact .inr hB.symm
 have row':∀i,i < R→OwnC w' base 3 (blk i) N (cap i) (iv (a i)):=fun i hi=> (ha.row (h.em.row i hi) (.inr (fun e=> nb i hi e.symm))).1;have arr':Own w' base 22 g R (rowV blk cap N):=(ha.arr h.em.arr ng).1;refine ⟨⟨arr',row',h.em.apart,h.em.off,fun B hB=> ?_⟩,by unfold AV;simp,by unfold AV;simp,by unfold AV;simp,ha.cell h.c4 n4,ha.cell h.c5 n5,ha.cell h.c7 n7,?_,fun B hB=> ⟨by unfold AV;rw [hB];simp,?_⟩,ha.ex h.ex h.bs,h.bs⟩
 ·unfold AV at hB;rcases List.mem_append.1 hB with hB | hB
  ·have hB':pv'.ownBlock=some B:=by
    cases e:pv'.ownBlock with
    | none=> rw [e] at hB;simp at hB
    | some C=> rw [e] at hB;simp at hB;rw [hB]
   refine ⟨(ha.own.lt B hB').2,?_,fun i hi=> ?_⟩
   ·rcases pnew B hB' with k | k
    ·exact (h.em.av B (h.pvi B k).1).2.1
    ·have:=h.em.arr.lt.2;omega
   ·rcases pnew B hB' with k | k
    ·exact (h.em.av B (h.pvi B k).1).2.2 i hi
    ·have:=(h.em.row i hi).lt.2;omega
  ·simp at hB;rcases hB with rfl | rfl | rfl
   ·exact ⟨by omega,l4.2⟩
   ·exact ⟨by omega,l5.2⟩
   ·exact ⟨by omega,l7.2⟩
 ·have:=ha.own;rw [List.length_append,List.length_singleton];have e:ints (pI (piv ++ [c]))=ints (pI piv) ++ [.int .i64 c]:=by simp [pI,ints]
  rw [e];exact this
 ·rcases pnew B hB with k | k
  ·exact (h.pvi B k).2
  ·omega
end
end
section
open Go.RowKit
def atF (p m:Nat) (ml:List Int) (v:List Int) (a:Int) (u:List Int) (k:Nat):Int:=
 if u.getD k 0=0 then v.getD k 0 else ((kadd p m (kin (p ^ m) (v.getD k 0)) (kin (p ^ m) ((kmul p m (lw ml) (kin (p ^ m) a) (kin (p ^ m) (u.getD k 0)):Nat):Int)):Nat):Int)
theorem rAddTo_any (p m:Nat) (ml:List Int) (mv:Value) (w:World) (hf:FSh p m ml) (hmv:ISl w mv ml) (v u:List Int) (vv uv:Value) (hv:ISl w vv v) (hu:ISl w uv u) (a:Int) (hl:v.length≤u.length) (hl1:v.length≤1000):
  Calls Tryz.prog 174 #[.agg #[.int .i64 p,.int .i64 m,mv],vv,.int .i64 a,uv] w fun r w'=>
   ∃g,r= .returned (.slice (some ⟨g,0,none⟩) v.length v.length)∧Own w' w.heap.size 3 g v.length (iv (atF p m ml v a u))∧Ex w w':=by
 have HF:=hid_ hf;have HMV:=hid_ hmv;obtain ⟨va,vc,rfl,v1,v2,v3⟩:=hv.open;obtain ⟨ua,uc,rfl,u1,u2,u3⟩:=hu.open;have V3:=hid_ v3;have U3:=hid_ u3;unfold maxLen at v2 u2;clear hf hmv hv hu v3 u3;obtain ⟨f0,f1,f2,e0,fsz⟩:=box_facts w p m mv;obtain ⟨xb,hxb⟩:∃xb,w.heap.size=xb:=⟨_,rfl⟩;have HXB:=hid_ hxb;rw [hxb] at f0 f1 f2 fsz ⊢;go_enter Tryz.func174,Tryz.ntmps174
 go_wp2_with (at_make;refine wpList_make_arr _ rfl _ _ 22 rfl 3 (.int .i64 0) 8 Tryz.underlying22 infoInt rfl _ v.length rfl rfl rfl (by omega) (by unfold maxLen;omega) ?_)
 intro w3 hown hx3
 try simp only [hxb] at hown hx3 ⊢
 try simp only [hxb]
 generalize w.alloc (.cells #[.int .i64 p,.int .i64 m,mv] 24)=wA at *
 try simp only [fsz] at hown ⊢
 have HSZ:=hid_ fsz;have HO:=hid_ (show Own w3 (xb + 1) 3 (xb + 1) v.length (iv fun j=> if j < 0 then atF p m ml v a u j else 0) from hown.icongr (fun j _=> by simp));have EX:=hid_ hx3;have E0:=hid_ e0;have F0:=hid_ f0;have F1:=hid_ f1;have F2:=hid_ f2;clear hown hx3 e0 f0 f1 f2 fsz hxb;go_wp2_with fail
 go_loopw [10] (fun k' wr=> ∃k:Nat,k≤v.length∧k'= .int .i64 k∧Hid (Own wr (xb + 1) 3 (xb + 1) v.length (iv fun j=> if j < k then atF p m ml v a u j else 0))∧Hid (Ex wA wr)) (fun k' _=> v.length - (intOf k').toNat)
 case atStart=> exact ⟨0,by omega,rfl,HO,EX⟩
 case round=>
  clear HO EX;obtain ⟨k,hk,rfl,hown,hx⟩:=hrel;by_cases hlt:k < v.length
  ·obtain ⟨y,hy⟩:∃y,v[k]?=some y:=⟨_,List.getElem?_eq_getElem hlt⟩;obtain ⟨z,hz⟩:∃z,u[k]?=some z:=⟨_,List.getElem?_eq_getElem (by omega)⟩;have hyg:v.getD k 0=y:=by rw [List.getD_eq_getElem?_getD,hy];rfl
   have hzg:u.getD k 0=z:=by rw [List.getD_eq_getElem?_getD,hz];rfl
   obtain ⟨vb,vo,rfl,hvc⟩:=V3.out (by omega);obtain ⟨ub,uo,rfl,huc⟩:=U3.out (by omega);have hku:k < u.length:=by omega
   have D0:=hid_ (hvc k y hy);have D1:=hid_ (huc k z hz);have HSTEP:=hid_ (fun (t:Int) (ht:t=atF p m ml v a u k)=> (hown.out.set k (.int .i64 t)));have i1:(0:Int)≤(k:Int):=by omega
   have i2:(k:Int) < (v.length:Int):=by omega
   have i3:(k:Int) < (u.length:Int):=by omega
   have c1:=(E0.out.trans hx.out).cell D0.out;have c2:=hown.out.cell hlt;have c3:=hown.out.frz k;have HO1:=hid_ (hown.out.set k (.int .i64 y));have HX1:=hid_ (hown.out.exSet (a:=wA) (by have:=HSZ.out;omega) hx.out k (.int .i64 y));have c4:=(E0.out.trans HX1.out).cell D1.out;have HATF:=hid_ (show atF p m ml v a u k=if z=0 then y else ((kadd p m (kin (p ^ m) y) (kin (p ^ m) ((kmul p m (lw ml) (kin (p ^ m) a) (kin (p ^ m) z):Nat):Int)):Nat):Int) from by unfold atF;rw [hyg,hzg]);clear hown hx hvc huc hy hz hyg hzg HSTEP;by_cases hz0:z=0
   ·have hb:(z !=0)=false:=by simp [hz0]
    rw [if_pos hz0] at HATF;clear hz0;go_wp2_with fail
    go_roundw
    case rel=> exact ⟨k + 1,by omega,by go_num,hid_ (HO1.out.congr fun j hj=> by
     by_cases e:j=k
     ·subst e;rw [upd_same];show _=Value.int .i64 (if j < j + 1 then atF p m ml v a u j else 0);rw [if_pos (by omega),HATF.out]
     ·rw [upd_ne _ _ e];show Value.int .i64 (if j < k then atF p m ml v a u j else 0)=Value.int .i64 (if j < k + 1 then atF p m ml v a u j else 0)
      by_cases h:j < k
      ·rw [if_pos h,if_pos (by omega)]
      ·rw [if_neg h,if_neg (by omega)]),HX1⟩
    case measure=> simp [intOf];omega
   ·have hb:(z !=0)=true:=by simpa using hz0
    rw [if_neg hz0] at HATF;clear hz0;go_wp2_with fail
    generalize wr.setCell ⟨xb + 1,k,none⟩ (.int .i64 y)=W at *;obtain ⟨K1,hK1⟩:∃K,kmul p m (lw ml) (kin (p ^ m) a) (kin (p ^ m) z)=K:=⟨_,rfl⟩;have HMUL:Hid (∀w',Ex wA w'→Calls Tryz.prog 60 #[.agg #[.int .i64 p,.int .i64 m,mv],.int .i64 a,.int .i64 z] w' fun r w''=> r= .returned (.int .i64 (K1:Nat))∧Ex w' w''):=by
     rw [←hK1];exact hid_ (fun w' h0=> rMul_any w' HF.out (HMV.out.ex (E0.out.trans h0)) a z)
    rw [hK1] at HATF;obtain ⟨K2,hK2⟩:∃K,kadd p m (kin (p ^ m) y) (kin (p ^ m) (K1:Nat))=K:=⟨_,rfl⟩;have HADD:Hid (∀w',Ex wA w'→Calls Tryz.prog 186 #[.agg #[.int .i64 p,.int .i64 m,mv],.int .i64 y,.int .i64 (K1:Nat)] w' fun r w''=> r= .returned (.int .i64 (K2:Nat))∧Ex w' w''):=by
     rw [←hK2];exact hid_ (fun w' h0=> rAdd_any w' HF.out (HMV.out.ex (E0.out.trans h0)) y (K1:Nat))
    rw [hK2] at HATF;clear hK1 hK2;have cX:=HO1.out.cell hlt;have fX:=HO1.out.frz k;have D2:=hid_ (E0.out.cell D0.out);have D3:=hid_ (E0.out.cell D1.out);have X0:Ex W W.drew:=(Ex.refl W).drew;have G0:Ex wA W.drew:=HX1.out.trans X0;clear c1 c2 c3 c4;rw [upd_same] at cX;have HLEN:=hid_ hl
    go_region_held3 (fun w'=> w'.cell? ⟨xb,0,none⟩=some (.int .i64 p)∧w'.cell? ⟨xb,1,none⟩=some (.int .i64 m)∧w'.cell? ⟨xb,2,none⟩=some mv∧w'.cell? ⟨vb,vo + k,none⟩=some (.int .i64 y)∧w'.cell? ⟨ub,uo + k,none⟩=some (.int .i64 z))
     (first | with_reducible exact ⟨G0.cell F0.out,G0.cell F1.out,G0.cell F2.out,G0.cell D2.out,G0.cell D3.out⟩ | with_reducible exact ⟨G1.cell F0.out,G1.cell F1.out,G1.cell F2.out,G1.cell D2.out,G1.cell D3.out⟩ | with_reducible exact ⟨G2.cell F0.out,G2.cell F1.out,G2.cell F2.out,G2.cell D2.out,G2.cell D3.out⟩ | with_reducible exact ⟨ES.cell F0.out,ES.cell F1.out,ES.cell F2.out,ES.cell D2.out,ES.cell D3.out⟩)
     ((first
            | (go_at_call 60;(with_reducible refine (HMUL.out _ G0).mono ?_);rintro e wx1 ⟨rfl,hy1⟩;have X1:=X0.trans hy1;have G1:=G0.trans hy1)
            | (go_at_call 186;(with_reducible refine (HADD.out _ G1).mono ?_);rintro e wx2 ⟨rfl,hy2⟩;have X2:=X1.trans hy2;have G2:=G1.trans hy2;have cX2:=X2.cell cX;have fX2:=X2.frz cX fX;have ES:=(HO1.out.ex X2).exSet (by have:=HSZ.out;omega) G2 k (.int .i64 (K2:Nat)))))
    have HO2:=hid_ ((HO1.out.ex X2).set k (.int .i64 (K2:Nat)));have HX2:=hid_ ES;clear cX fX cX2 fX2 ES G0 G1 G2 X0 X1 X2 hy1 hy2 HMUL HADD HO1 HX1;go_wp2_with fail
    go_roundw
    case rel=> exact ⟨k + 1,by omega,by go_num,hid_ (HO2.out.congr fun j hj=> by
     by_cases e:j=k
     ·subst e;rw [upd_same];show _=Value.int .i64 (if j < j + 1 then atF p m ml v a u j else 0);rw [if_pos (by omega),HATF.out]
     ·rw [upd_ne _ _ e,upd_ne _ _ e];show Value.int .i64 (if j < k then atF p m ml v a u j else 0)=Value.int .i64 (if j < k + 1 then atF p m ml v a u j else 0)
      by_cases h:j < k
      ·rw [if_pos h,if_pos (by omega)]
      ·rw [if_neg h,if_neg (by omega)]),HX2⟩
    case measure=> simp [intOf];omega
  ·obtain rfl:k=v.length:=by omega
   have HO2:=hid_ (hown.out.icongr (h:=atF p m ml v a u) fun j hj=> by rw [if_pos hj]);clear hown;go_wp2_with fail
   go_ret;exact ⟨_,rfl,HO2.out.mono (by omega),E0.out.trans hx.out⟩
theorem atF_addF {p m:Nat} (hp:1≤p) {ml:List Int} {N:Nat} {f g:Nat→Int} {a:Int} {j:Nat} (hj:j < N):atF p m ml (il N f) a (il N g) j=addF p m ml f (kin (p ^ m) a) g j:=by
 unfold atF addF;have e1:(il N f).getD j 0=f j:=by rw [List.getD_eq_getElem?_getD,il_get hj];rfl
 have e2:(il N g).getD j 0=g j:=by rw [List.getD_eq_getElem?_getD,il_get hj];rfl
 rw [e1,e2];split
 ·rfl
 ·rw [kin_of (kmul_lt hp _ _)]
theorem rCopy_any (w:World) (rows:List (List Int)) (v:Value) (hv:MSl w v rows) (hR:rows.length≤1000) (hN:∀r∈rows,r.length≤1000):
  Calls Tryz.prog 175 #[v] w fun r w'=> ∃cv vals,r= .returned cv∧MRows w' w.heap.size cv rows vals∧Ex w w':=by
 obtain ⟨va,vc,rfl,v1,v2,v3⟩:=hv.open;unfold maxLen at v2;have V3:=hid_ v3;have HN:=hid_ hN;clear hv v3 hN;go_enter Tryz.func175,Tryz.ntmps175
 go_wp2_with fail
 go_loopw [3,4] (fun cv i' wr=> ∃(i:Nat) (M:List (List Int)) (vals:List Value),i≤rows.length∧i'= .int .i64 i∧Hid (M=rows.take i)∧Hid (MRows wr w.heap.size cv M vals)∧Hid (Ex w wr)) (fun _ i' _=> rows.length - (intOf i').toNat)
 case atStart=> exact ⟨0, [], [],by omega,rfl,hid_ rfl,hid_ (MRows.nil _ _),hid_ (Ex.refl _)⟩
 case round=>
  obtain ⟨i,M,vals,hi,rfl,hM,hm,hx⟩:=hrel;obtain ⟨ca,cc,hcv⟩:=own_shape hm.out.cvo;subst hcv;have HTK:=hid_ (show M.length=i from by rw [hM.out];simp;omega);by_cases hlt:i < rows.length
  ·obtain ⟨zb,zo,rfl,hzc⟩:=V3.out (by omega);obtain ⟨uv,huc,hui⟩:=hzc i _ (List.getElem?_eq_getElem hlt);have cu:=hx.out.cell huc;have hru:=HN.out _ (List.getElem_mem hlt);have HTS:=hid_ (show M ++ [rows[i]]=rows.take (i + 1) from by rw [hM.out,List.take_add_one,List.getElem?_eq_getElem hlt];rfl);have i1:(0:Int)≤(i:Int):=by omega
   have i2:(i:Int) < (rows.length:Int):=by omega
   generalize rows[i]=r at *;have HUI:=hid_ (hui.ex hx.out);obtain ⟨ua,uc,rfl,-,u2,-⟩:=hui.open;unfold maxLen at u2;have HM:=hid_ hm.out;have HX:=hid_ hx.out;have HSZ:=hid_ hx.out.size;have cu2:=fun o=> ((Ex.refl wr).alloc o).cell cu;have HON:=hid_ (show ∀u∈ints r,u.oneCell'=true from fun u hu=> by
    unfold ints at hu;obtain ⟨x,_,rfl⟩:=List.mem_map.1 hu;simp [Value.oneCell'])
   clear hzc huc hui hm hx;go_wp2_with (first
        | (at_builtin;refine wpList_append_sl _ rfl _ _ 22 rfl wr.heap.size 3 (.int .i64 0) 1 8 Tryz.underlying22 infoInt rfl (by decide) _ 0 [] rfl (own_lit0 wr 3) (.slice ua r.length uc) r.length (ints r) rfl (HUI.out.ex ((Ex.refl wr).alloc _)) HON.out (by unfold maxLen;omega) (by omega) (by simp) ?_
           intro v2 w5 hown2 hg2 ha2;rw [Nat.zero_add,List.nil_append] at hown2;have HX5:=hid_ (show Ex wr w5 from Ex.grown ((Ex.refl wr).alloc _) (own_lit0 wr 3) (Nat.le_refl _) hg2);have HM5:=hid_ (HM.out.ex HX5.out);have HXX:=hid_ (HX.out.trans HX5.out);have HL:=hid_ (show w5.ownsRow w.heap.size 3 1 v2 r.length (ints r) from by
             exact ownsRow_mono hown2 HSZ.out)
           have HAL:=hid_ (show Aprt v2 (.slice ca M.length cc) from by
             cases e:v2.ownBlock with
             | none=> exact .inl e
             | some B=>
               right;rw [e];intro e2;have h1:=(HM.out.cvo.lt B e2.symm).2;have h2:=(hown2.lt B e).1;omega)
           obtain ⟨xa,xc,hv2⟩:=own_shape hown2;subst hv2;clear HM hown2 hg2 ha2 cu cu2)
        | (at_builtin;refine wpList_append1 _ rfl _ _ 45 rfl w.heap.size 22 (.slice none 0 0) 1 24 Tryz.underlying45 infoIntsL rfl (by decide) _ M.length _ rfl HM5.out.cvo [.slice xa r.length xc] 22 _ rfl (by simp) rfl (by simp [Value.oneCell']) (by have:=HTK.out;unfold maxLen;omega) (by have:=HTK.out;omega) HXX.out.size ?_))
   intro v2 w6 happ;have HO:=hid_ (HM5.out.app HL.out HAL.out happ);have HE:=hid_ (happ.ex HXX.out (Nat.le_refl _));obtain ⟨va2,vc2,hv2⟩:=own_shape happ.own;subst hv2;clear happ HL HAL HM5;go_wp2_with fail
   go_roundw
   case rel=> first | exact ⟨i + 1,_,_,by omega,by go_num,HTS,HO,HE⟩ | ((repeat apply Exists.intro);exact ⟨⟨i + 1,_,_,by omega,by go_num,HTS,HO,HE⟩,rfl⟩)
   case measure=> simp [intOf];omega
  ·obtain rfl:i=rows.length:=by omega
   have HM:=hid_ (show MRows wr w.heap.size (.slice ca M.length cc) rows vals from by have h:=hM.out;rw [List.take_length] at h;have:=hm.out;rw [h] at this ⊢;exact this);have HX:=hid_ hx.out;clear hm hx;go_wp2_with fail
   go_ret;exact ⟨_,_,rfl,HM.out,HX.out⟩
theorem rScl_any (w:World) (p m:Nat) (ml:List Int) (mv:Value) (hf:FSh p m ml) (hmv:ISl w mv ml) (c:Int) (N:Nat) (hN:N≤1000) (f:Nat→Int) (vv:Value) (hv:ISl w vv (il N f)):
  Calls Tryz.prog 176 #[.agg #[.int .i64 p,.int .i64 m,mv],.int .i64 c,vv] w fun r w'=> ∃g,r= .returned (.slice (some ⟨g,0,none⟩) N N)∧Own w' w.heap.size 3 g N (iv (sclF p m ml (kin (p ^ m) c) f))∧Ex w w':=by
 obtain ⟨a0,a1,a2,ea,asz⟩:=box_facts w p m mv;obtain ⟨va,vc,hvv,v1,v2,v3⟩:=hv.open;rw [il_len] at hvv v1 v3;subst hvv;unfold maxLen at v2;have V3:=hid_ v3;have HMU:=hid_ (fun (w':World) (h:Ex w w') (y:Int)=> rMul_any w' hf (hmv.ex h) c y);have HE0:=hid_ ea;obtain ⟨ma,mc,rfl,-,-,-⟩:=hmv.open;clear hf hmv hv v3 ea;go_enter Tryz.func176,Tryz.ntmps176
 go_wp2_with (at_make;refine wpList_make_arr _ rfl _ _ 22 rfl 3 (.int .i64 0) 8 Tryz.underlying22 infoInt rfl _ N rfl rfl rfl (by omega) (by unfold maxLen;omega) ?_)
 obtain ⟨B,hB⟩:∃B,w.heap.size=B:=⟨_,rfl⟩;rw [hB] at a0 a1 a2 asz
 try simp only [hB]
 have HBW:=hid_ hB;clear hB;generalize w.alloc (.cells #[.int .i64 p,.int .i64 m,.slice ma ml.length mc] 24)=w1 at *;intro w3 hown hx3
 try simp only [asz] at hown ⊢
 obtain ⟨g,hgg⟩:∃g,B + 1=g:=⟨_,rfl⟩;have HO3:=hid_ (show Own w3 g 3 g N (iv fun j=> if j < 0 then sclF p m ml (kin (p ^ m) c) f j else 0) from by rw [←hgg];exact hown.icongr (fun j _=> by simp))
 try simp only [hgg]
 have HX3:=hid_ hx3;have HGE:=hid_ (show w1.heap.size=g from by rw [←hgg,←asz]);have A0:=hid_ a0;have A1:=hid_ a1;have A2:=hid_ a2;clear hown hx3 a0 a1 a2 hgg asz;go_wp2_with fail
 go_loopw [8] (fun i' wr=> ∃(i:Nat),i≤N∧i'= .int .i64 i∧Hid (Own wr g 3 g N (iv fun j=> if j < i then sclF p m ml (kin (p ^ m) c) f j else 0))∧Hid (Ex w1 wr)) (fun i' _=> N - (intOf i').toNat)
 case atStart=> exact ⟨0,by omega,rfl,HO3,HX3⟩
 case round=>
  clear HO3;obtain ⟨i,hi,rfl,hown,hex⟩:=hrel;by_cases hin:i < N
  ·obtain ⟨vb,vo,rfl,hvc⟩:=V3.out (by omega);have EXW:=hid_ (HE0.out.trans hex.out);have CV:=hid_ (hvc i _ (il_get hin f));obtain ⟨z,hz⟩:∃z,f i=z:=⟨_,rfl⟩;rw [hz] at CV;have i1:(0:Int)≤(i:Int):=by omega
   have i2:(i:Int) < (N:Int):=by omega
   have HMW:=hid_ (fun (w5:World) (h5:Ex wr w5)=> HMU.out w5 (EXW.out.trans h5) z);obtain ⟨u,hu⟩:∃u,kmul p m (lw ml) (kin (p ^ m) c) (kin (p ^ m) z)=u:=⟨_,rfl⟩;rw [hu] at HMW;have HOW:=hid_ hown.out;have HEX:=hid_ hex.out;have HIN:=hid_ hin;have HOS:=hid_ (fun (w5:World) (h5:Ex wr w5)=> show Own (w5.setCell ⟨g,i,none⟩ (.int .i64 (u:Int))) g 3 g N (iv fun j=> if j < i + 1 then sclF p m ml (kin (p ^ m) c) f j else 0) from by
    refine ((HOW.out.ex h5).set i (.int .i64 (u:Int))).congr fun j hj=> ?_;by_cases e:j=i
    ·subst e;rw [upd_same];show Value.int .i64 (u:Int)= .int .i64 (if j < j + 1 then sclF p m ml (kin (p ^ m) c) f j else 0)
     rw [if_pos (by omega)];unfold sclF;rw [hz,hu]
    ·rw [upd_ne _ _ e];show Value.int .i64 (if j < i then sclF p m ml (kin (p ^ m) c) f j else 0)= .int .i64 (if j < i + 1 then sclF p m ml (kin (p ^ m) c) f j else 0)
     by_cases h:j < i
     ·rw [if_pos h,if_pos (by omega)]
     ·rw [if_neg h,if_neg (by omega)])
   have HXS:=hid_ (fun (w5:World) (h5:Ex wr w5)=> (HOW.out.ex h5).exSet (a:=w1) (Nat.le_of_eq HGE.out) (HEX.out.trans h5) i (.int .i64 (u:Int)));have HALL:=hid_ (fun (w5:World) (h5:Ex wr w5)=> (⟨(HEX.out.trans h5).cell A0.out,(HEX.out.trans h5).cell A1.out,(HEX.out.trans h5).cell A2.out,(EXW.out.trans h5).cell CV.out⟩:w5.cell? ⟨B,0,none⟩=some (.int .i64 (p:Int))∧w5.cell? ⟨B,1,none⟩=some (.int .i64 (m:Int))∧w5.cell? ⟨B,2,none⟩=some (.slice ma ml.length mc)∧w5.cell? ⟨vb,vo + i,none⟩=some (.int .i64 z)));have HALS:=hid_ (fun (w5:World) (h5:Ex wr w5)=> (⟨(HXS.out w5 h5).cell A0.out,(HXS.out w5 h5).cell A1.out,(HXS.out w5 h5).cell A2.out,(HE0.out.trans (HXS.out w5 h5)).cell CV.out⟩:(w5.setCell ⟨g,i,none⟩ (.int .i64 (u:Int))).cell? ⟨B,0,none⟩=some (.int .i64 (p:Int))∧(w5.setCell ⟨g,i,none⟩ (.int .i64 (u:Int))).cell? ⟨B,1,none⟩=some (.int .i64 (m:Int))∧(w5.setCell ⟨g,i,none⟩ (.int .i64 (u:Int))).cell? ⟨B,2,none⟩=some (.slice ma ml.length mc)∧(w5.setCell ⟨g,i,none⟩ (.int .i64 (u:Int))).cell? ⟨vb,vo + i,none⟩=some (.int .i64 z)));clear hvc hz hu hown hex;go_wp2_with fail
   have G0:Ex wr wr.drew:=(Ex.refl wr).drew
   go_region_held3 (fun w'=> w'.cell? ⟨B,0,none⟩=some (.int .i64 (p:Int))∧w'.cell? ⟨B,1,none⟩=some (.int .i64 (m:Int))∧w'.cell? ⟨B,2,none⟩=some (.slice ma ml.length mc)∧w'.cell? ⟨vb,vo + i,none⟩=some (.int .i64 z))
    (first | with_reducible exact HALL.out _ G0 | with_reducible exact HALL.out _ X6 | with_reducible exact HALS.out _ X6)
    ((go_at_call 60;(with_reducible refine (HMW.out _ G0).mono ?_);rintro e w6 ⟨rfl,h6⟩;have X6:=G0.trans h6;clear h6;have co6:=(HOW.out.ex X6).cell HIN.out;have cf6:=(HOW.out.ex X6).frz i))
   go_wp2_with fail
   go_roundw
   case rel=> first | exact ⟨i + 1,by omega,by go_num,hid_ (HOS.out _ X6),hid_ (HXS.out _ X6)⟩ | ((repeat apply Exists.intro);exact ⟨⟨i + 1,by omega,by go_num,hid_ (HOS.out _ X6),hid_ (HXS.out _ X6)⟩,rfl⟩)
   case measure=> simp [intOf];omega
  ·obtain rfl:i=N:=by omega
   have HO:=hid_ (show Own wr g 3 g i (iv (sclF p m ml (kin (p ^ m) c) f)) from hown.out.icongr fun j hj=> by rw [if_pos hj]);go_wp2_with fail
   go_ret;exact ⟨g,rfl,HO.out.mono (by have:=HGE.out;have:=HBW.out;have:=HE0.out.size;omega),HE0.out.trans hex.out⟩
end
end Go.Proofs.YtgdmlmhpineibaaGreat
