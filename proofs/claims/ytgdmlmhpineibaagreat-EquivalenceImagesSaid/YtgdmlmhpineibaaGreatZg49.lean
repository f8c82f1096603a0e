/- Walks of the reference's Entries (any field), List, Weight and Word. -/
import Derived.Deep.CutRange
import Derived.Deep.RegionHeld3
import Derived.Test.YtgdmlmhpineibaaGreatZg07
import Derived.Test.YtgdmlmhpineibaaGreatZg08
import Derived.Test.YtgdmlmhpineibaaGreatZg16
import Derived.Test.YtgdmlmhpineibaaGreatZg17
import Derived.Test.YtgdmlmhpineibaaGreatZg18
import Derived.Test.YtgdmlmhpineibaaGreatZg19
import Derived.Test.YtgdmlmhpineibaaGreatZg20
import Derived.Test.YtgdmlmhpineibaaGreatZg21
import Derived.Test.YtgdmlmhpineibaaGreatZg24
import Derived.Test.YtgdmlmhpineibaaGreatZg26
import Derived.Test.YtgdmlmhpineibaaGreatZg29
import Derived.Test.YtgdmlmhpineibaaGreatZg30
import Derived.Test.YtgdmlmhpineibaaGreatZg32
import Derived.Test.YtgdmlmhpineibaaGreatZg38
import Derived.Test.YtgdmlmhpineibaaGreatZg39
import Derived.Test.YtgdmlmhpineibaaGreatZg42
import Derived.Test.YtgdmlmhpineibaaGreatZg43
import Derived.Test.YtgdmlmhpineibaaGreatZg46
import Derived.Test.YtgdmlmhpineibaaGreatZg48
namespace Go.Proofs.YtgdmlmhpineibaaGreat
set_option linter.unusedVariables false
set_option linter.unusedSimpArgs false
set_option maxRecDepth 100000
set_option maxHeartbeats 4000000
section
open Go.RowKit
section
variable {p m:Int} {mv:Value}
end
end
section
open Go.RowKit
end
section
open Go.RowKit
end
section
open Go.RowKit
def shoB (pl sl:List Int):Bool:=decide (pl.length≤100) && decide (sl.length≤100)
theorem short_any (w:World) (pl sl:List Int) (pv sv:Value) (hp:ISl w pv pl) (hs:ISl w sv sl) (fr:Int):
  Calls Tryz.prog 13 #[.agg #[pv,sv,.int .i64 fr]] w fun r w'=> r= .returned (.bool (shoB pl sl))∧Ex w w':=by
 obtain ⟨b0,b1,b2,eb⟩:=boxMo_facts w pv sv fr;have HX:=hid_ eb;obtain ⟨pa,pc,rfl,-,q2,-⟩:=hp.open;obtain ⟨sa,sc,rfl,-,s2,-⟩:=hs.open;unfold maxLen at q2 s2;obtain ⟨R,hR⟩:∃R,shoB pl sl=R:=⟨_,rfl⟩;have HR:=hid_ (show R=(decide (pl.length≤100) && decide (sl.length≤100)) from hR.symm);rw [hR];clear hp hs eb hR;by_cases h1:pl.length≤100
 ·have k1:decide ((pl.length:Int)≤100)=true:=by simp;omega
  have j1:(pl.length:Int)≤100:=by omega
  by_cases h2:sl.length≤100
  ·have k2:decide ((sl.length:Int)≤100)=true:=by simp;omega
   have j2:(sl.length:Int)≤100:=by omega
   have HE:=hid_ (show R=true from by rw [HR.out];simp [h1,h2]);go_enter Tryz.func13,Tryz.ntmps13
   go_wp2_with fail
   go_ret;exact ⟨by rw [HE.out];rfl,HX.out⟩
  ·have k2:decide ((sl.length:Int)≤100)=false:=by simp;omega
   have j2:¬(sl.length:Int)≤100:=by omega
   have HE:=hid_ (show R=false from by rw [HR.out];simp [h2]);go_enter Tryz.func13,Tryz.ntmps13
   go_wp2_with fail
   go_ret;exact ⟨by rw [HE.out];rfl,HX.out⟩
 ·have k1:decide ((pl.length:Int)≤100)=false:=by simp;omega
  have j1:¬(pl.length:Int)≤100:=by omega
  have HE:=hid_ (show R=false from by rw [HR.out];simp [h1]);go_enter Tryz.func13,Tryz.ntmps13
  go_wp2_with fail
  go_ret;exact ⟨by rw [HE.out];rfl,HX.out⟩
end
section
open Go.RowKit
theorem rFew12_any (w:World) (p m:Int) (mv:Value) (n:Int) (rows:List (List Int)) (v:Value) (hv:MSl w v rows) (lim:Int) (hl0:0≤lim) (hl1:lim≤100000):
  Calls Tryz.prog 62 #[.agg #[.int .i64 p,.int .i64 m,mv,.int .i64 n,v],.int .i64 lim] w fun r w'=> r= .returned (.bool (fewM 0 rows lim))∧Ex w w':=by
 obtain ⟨a0,a1,a2,a3,a4,ea⟩:=boxC_facts w p m mv n v;have HFW:=hid_ (fun (w':World) (h:Ex w w')=> rFewM_any w' 0 rows v (hv.ex h) lim hl0 hl1);obtain ⟨za,zc,rfl,-,z2,-⟩:=hv.open;have HE:=hid_ ea;clear hv ea z2;obtain ⟨F,hF⟩:∃F,fewM 0 rows lim=F:=⟨_,rfl⟩;rw [hF] at HFW ⊢;clear hF;go_enter Tryz.func62,Tryz.ntmps62
 go_wp2_with fail
 generalize w.alloc (.cells #[.int .i64 p,.int .i64 m,mv,.int .i64 n,.slice za rows.length zc] 47)=w1 at *;refine (HFW.out w1 HE.out).mono ?_;rintro e w2 ⟨rfl,hx⟩;have HX:=hid_ (HE.out.trans hx);clear hx;go_wp2_with fail
 go_ret;exact ⟨rfl,HX.out⟩
end
section
open Go.RowKit
def FewC (c:CdV):Prop:=fewM 0 c.rows 80=true∧(c.n≤8∨64 < c.n)∧ordS c.p c.m≤16
theorem few31_any (w:World) (c:CdV) (m1 v1:Value) (hc:c.at w m1 v1):
  Calls Tryz.prog 27 #[c.arg m1 v1] w fun r w'=> BolR (FewC c) r∧Ex w w':=by
 obtain ⟨c0,c1,c2,c3,c4⟩:=boxC5 w c m1 v1;have HX:=hid_ (e_al w (c.obj m1 v1));have HFW:=hid_ (fun (w':World) (h:Ex w w')=> rFew12_any w' c.p c.m m1 c.n c.rows v1 (hc.ex h).g 80 (by decide) (by decide));have HOR:=hid_ (fun w'=> rOrder_any c.p c.m m1 w');obtain ⟨x1,y1,rfl,-,z1,-⟩:=hc.g.open;obtain ⟨x3,y3,rfl,-,z3,-⟩:=hc.m.open;obtain ⟨p,m,ml,n,rows⟩:=c;have HSM:=hid_ (show FewC ⟨p,m,ml,n,rows⟩↔fewM 0 rows 80=true∧(n≤8∨64 < n)∧ordS p m≤16 from Iff.rfl);obtain ⟨B,hB⟩:∃B,w.heap.size=B:=⟨_,rfl⟩;rw [hB] at c0 c1 c2 c3 c4;dsimp only [CdV.arg,CdV.obj] at *;obtain ⟨P,hP⟩:∃P,FewC ⟨p,m,ml,n,rows⟩=P:=⟨_,rfl⟩;rw [hP] at HSM ⊢;obtain ⟨F,hF⟩:∃F,fewM 0 rows 80=F:=⟨_,rfl⟩;rw [hF] at HFW HSM;obtain ⟨Q,hQ⟩:∃Q,ordS p m=Q:=⟨_,rfl⟩;rw [hQ] at HOR HSM;clear hc hF hP hQ z1 z3;go_enter Tryz.func27,Tryz.ntmps27
 go_upto_region 1 with fail
 try simp only [hB]
 clear hB;generalize w.alloc (.cells #[.int .i64 p,.int .i64 m,.slice x3 ml.length y3,.int .i64 n,.slice x1 rows.length y1] 47)=w1 at *;have HALL:=hid_ (fun w' (h:Ex w1 w')=> (⟨h.cell c0,h.cell c1,h.cell c2,h.cell c3,h.cell c4⟩:_∧_∧_∧_∧_));go_wp2_with fail
 refine (HFW.out _ HX.out).mono ?_;rintro e w2 ⟨rfl,hx2⟩;have HX2:=hid_ hx2;clear hx2 c0 c1 c2 c3 c4;obtain ⟨c0,c1,c2,c3,c4⟩:=HALL.out w2 HX2.out
 cases F with
 | false=>
  have HN:=hid_ (show ¬P from fun h=> by cases (HSM.out.1 h).1);go_wp2_with fail
  go_ret;exact ⟨bolR_no HN.out,HX.out.trans HX2.out⟩
 | true=>
  by_cases h1:n≤8
  ·have k1:decide (n≤8)=true:=decide_eq_true h1;have H1:=hid_ h1;clear h1;go_wp2_with fail
   refine (HOR.out _).mono ?_;rintro e w3 ⟨rfl,hx3⟩;have HX3:=hid_ (HX2.out.trans hx3);clear hx3 c0 c1 c2 c3 c4;by_cases h2:Q≤16
   ·have k2:decide (Q≤16)=true:=decide_eq_true h2;have HN:=hid_ (show P from HSM.out.2 ⟨by first | rfl | trivial,.inl H1.out,h2⟩);clear h2;go_wp2_with fail
    go_ret;exact ⟨bolR_yes HN.out,HX.out.trans HX3.out⟩
   ·have k2:decide (Q≤16)=false:=decide_eq_false h2;have HN:=hid_ (show ¬P from fun h=> h2 (HSM.out.1 h).2.2);clear h2;go_wp2_with fail
    go_ret;exact ⟨bolR_no HN.out,HX.out.trans HX3.out⟩
  ·have k1:decide (n≤8)=false:=decide_eq_false h1;have H1:=hid_ h1;clear h1;by_cases h3:64 < n
   ·have k3:decide (64 < n)=true:=decide_eq_true h3;have H3:=hid_ h3;clear h3;go_wp2_with fail
    refine (HOR.out _).mono ?_;rintro e w3 ⟨rfl,hx3⟩;have HX3:=hid_ (HX2.out.trans hx3);clear hx3 c0 c1 c2 c3 c4;by_cases h2:Q≤16
    ·have k2:decide (Q≤16)=true:=decide_eq_true h2;have HN:=hid_ (show P from HSM.out.2 ⟨by first | rfl | trivial,.inr H3.out,h2⟩);clear h2;go_wp2_with fail
     go_ret;exact ⟨bolR_yes HN.out,HX.out.trans HX3.out⟩
    ·have k2:decide (Q≤16)=false:=decide_eq_false h2;have HN:=hid_ (show ¬P from fun h=> h2 (HSM.out.1 h).2.2);clear h2;go_wp2_with fail
     go_ret;exact ⟨bolR_no HN.out,HX.out.trans HX3.out⟩
   ·have k3:decide (64 < n)=false:=decide_eq_false h3;have HN:=hid_ (show ¬P from fun h=> by rcases (HSM.out.1 h).2.1 with h | h;exact H1.out h;exact h3 h);clear h3;go_wp2_with fail
    go_ret;exact ⟨bolR_no HN.out,HX.out.trans HX2.out⟩
end
section
open Go.RowKit
def EntR (p m N:Nat) (f:Nat→Int):Prop:=∀j,j < N→0≤f j∧f j < ((p ^ m:Nat):Int)
section
variable {p m:Nat} {ml:List Int} {N:Nat}
theorem redJ_addF (hp:1≤p) (x:Int) (u r:Nat→Int):redJ p m ml x u r=addF p m ml u (kneg p m (kin (p ^ m) x)) r:=by
 funext j;unfold redJ addF;rw [kneg_mul' hp]
theorem redI_dt (hp:2≤p) {u r:Nat→Int} {pl:Nat} {x:Nat→Int} (hx:dt p m ml N r x=0):dt p m ml N (redI p m ml u pl r) x=dt p m ml N u x:=by
 unfold redI;split
 ·rfl
 ·rw [redJ_addF (by omega),dt_add hp,hx,kmul_zero_r (by omega),kadd_zero (by omega) (dt_lt hp _ _)]
theorem redI_rng (hp:2≤p) {u r:Nat→Int} {pl:Nat} (hu:EntR p m N u):EntR p m N (redI p m ml u pl r):=by
 unfold redI;split
 ·exact hu
 ·intro j hj;unfold redJ;split
  ·exact hu j hj
  ·have:=kadd_lt (m:=m) (show 1≤p by omega) (kin (p ^ m) (u j)) (kneg p m (kmul p m (lw ml) (kin (p ^ m) (u pl)) (kin (p ^ m) (r j))));omega
theorem redK_dt (hp:2≤p) {a:Nat→Nat→Int} {pl:Nat→Nat} {v x:Nat→Int}:∀k,Sol p m ml N k a x→dt p m ml N (redK p m ml a pl v k) x=dt p m ml N v x
 | 0,_=> rfl
 | k + 1,h=> by
  show dt p m ml N (redI p m ml (redK p m ml a pl v k) (pl k) (a k)) x=_
  rw [redI_dt hp (h k (by omega))];exact redK_dt hp k fun i hi=> h i (by omega)
theorem redK_rng (hp:2≤p) {a:Nat→Nat→Int} {pl:Nat→Nat} {v:Nat→Int} (hv:EntR p m N v):∀k,EntR p m N (redK p m ml a pl v k)
 | 0=> hv
 | k + 1=> redI_rng hp (redK_rng hp hv k)
theorem redK_zer (hp:2≤p) (hm:1≤m) {n:Nat} {a:Nat→Nat→Int} {pl:Nat→Nat} {v:Nat→Int} (h:Ech N a pl n):∀k,k≤n→∀j,j < k→redK p m ml a pl v k (pl j)=0
 | 0,_,j,hj=> by omega
 | k + 1,hk,j,hj=> by
  show redI p m ml (redK p m ml a pl v k) (pl k) (a k) (pl j)=0
  unfold redI;split
  ·rename_i h0;by_cases e:j=k
   ·rw [e];exact h0
   ·exact redK_zer hp hm h k (by omega) j (by omega)
  ·unfold redJ;by_cases e:j=k
   ·rw [e,h.one k (by omega),if_neg (by decide),kin_one hp hm,kmul_one hp hm (kin_lt (Nat.pow_pos (by omega)) _),kadd_kneg (by omega)];rfl
   ·rw [h.zer k j (by omega) (by omega),if_pos rfl];exact redK_zer hp hm h k (by omega) j (by omega)
end
end
section
open Go.RowKit
section
variable {p m:Nat} {low:Vc}
theorem kpw_one_ (hp:2≤p) (hm:1≤m) {x:Nat} (hx:x < p ^ m):kpw p m low x 1=x:=by
 show kmul p m low 1 x=x
 exact one_kmul hp hm hx
theorem kpw_mulx (hp:2≤p) (hm:1≤m) (x y:Nat):∀e,kpw p m low (kmul p m low x y) e=kmul p m low (kpw p m low x e) (kpw p m low y e)
 | 0=> by
  show 1=kmul p m low 1 1
  rw [one_kmul hp hm (one_lt_q hp hm)]
 | e + 1=> by
  show kmul p m low (kpw p m low (kmul p m low x y) e) (kmul p m low x y)=kmul p m low (kmul p m low (kpw p m low x e) x) (kmul p m low (kpw p m low y e) y)
  have h1:1≤p:=by omega
  rw [kpw_mulx hp hm x y e,kmul_assoc h1,←kmul_assoc h1 (kpw p m low y e),kmul_comm (kpw p m low y e) x,kmul_assoc h1 x,←kmul_assoc h1]
theorem kpw_q (hp:2≤p) (hm:1≤m) (hF:IsF p m low) {x:Nat} (hx:x < p ^ m):kpw p m low x (p ^ m)=x:=by
 have hq:=one_lt_q hp hm;by_cases h0:x=0
 ·subst h0;exact kpw_zero (by omega) _ (by omega)
 ·have h:=kpw_add (low:=low) hp hm x (p ^ m - 1) 1;rw [show p ^ m - 1 + 1=p ^ m from by omega,←kpw_mod hp hm hF (by omega) hx (p ^ m - 1),Nat.mod_self,kpw_one_ hp hm hx] at h;rw [h];exact one_kmul hp hm hx
theorem frb_kpw (hp:2≤p) (hm:1≤m) {x:Nat} (hx:x < p ^ m):∀k,frb p m low x k=kpw p m low x (p ^ k)
 | 0=> by rw [Nat.pow_zero,kpw_one_ hp hm hx];rfl
 | k + 1=> by
  show kpw p m low (frb p m low x k) p=_
  rw [frb_kpw hp hm hx k,kpw_kpw hp hm,Nat.pow_succ]
theorem frb_add (x a:Nat):∀b,frb p m low (frb p m low x a) b=frb p m low x (a + b)
 | 0=> rfl
 | b + 1=> by
  show kpw p m low (frb p m low (frb p m low x a) b) p=kpw p m low (frb p m low x (a + b)) p
  rw [frb_add x a b]
theorem frb_m (hp:2≤p) (hm:1≤m) (hF:IsF p m low) {x:Nat} (hx:x < p ^ m):frb p m low x m=x:=by
 rw [frb_kpw hp hm hx,kpw_q hp hm hF hx]
theorem frb_mod (hp:2≤p) (hm:1≤m) (hF:IsF p m low) {x:Nat} (hx:x < p ^ m) (k:Nat):frb p m low x (k % m)=frb p m low x k:=by
 have key:∀c r,frb p m low x (m * c + r)=frb p m low x r:=fun c=> by
  induction c with
  | zero=> intro r;rw [Nat.mul_zero,Nat.zero_add]
  | succ c ih=>
   intro r;rw [show m * (c + 1) + r=m + (m * c + r) from by rw [Nat.mul_succ];omega,←frb_add,frb_m hp hm hF hx,ih]
 have h:=key (k / m) (k % m);rw [Nat.div_add_mod] at h;exact h.symm
theorem frb_mul (hp:2≤p) (hm:1≤m) (x y:Nat):∀k,frb p m low (kmul p m low x y) k=kmul p m low (frb p m low x k) (frb p m low y k)
 | 0=> rfl
 | k + 1=> by
  show kpw p m low (frb p m low (kmul p m low x y) k) p=_
  rw [frb_mul hp hm x y k,kpw_mulx hp hm];rfl
theorem kpw_pos (hp:2≤p) (hm:1≤m) (hF:IsF p m low) {x:Nat} (h1:1≤x) (hx:x < p ^ m):∀e,1≤kpw p m low x e
 | 0=> Nat.le_refl _
 | e + 1=> hF.ne_zero hp hm (kpw_pos hp hm hF h1 hx e) (kpw_lt hp hm x e) h1 hx
theorem frb_pos (hp:2≤p) (hm:1≤m) (hF:IsF p m low) {x:Nat} (h1:1≤x) (hx:x < p ^ m) (k:Nat):1≤frb p m low x k:=by
 rw [frb_kpw hp hm hx];exact kpw_pos hp hm hF h1 hx _
theorem frb_zero (hp:2≤p) (hm:1≤m) (k:Nat):frb p m low 0 k=0:=by
 rw [frb_kpw hp hm (Nat.pow_pos (by omega))];exact kpw_zero (by omega) _ (Nat.pow_pos (by omega))
end
structure MonOK (p m:Nat) (ml pl sl:List Int) (fr N:Nat):Prop where
 hp:2≤p
 hm:1≤m
 hF:IsF p m (lw ml)
 n1:1≤N
 n2:N≤64
 pll:pl.length=N
 sll:sl.length=N
 inj:InjN N (piF pl)
 sc:∀i,i < N→∃z:Nat,sl.getD i 0=z∧1≤z∧z < p ^ m
 frm:fr < m
theorem injN_of {pl:List Int} {N:Nat} (hl:pl.length=N) (hr:rngB pl N=true) (hd:dupB pl=false):InjN N (piF pl):=by
 refine ⟨fun i hi=> ?_,fun i j hi hj e=> Classical.byContradiction fun hij=> ?_⟩
 ·have:=rngB_at hr (i:=i) (by omega);unfold piF;omega
 ·have h1:=rngB_at hr (i:=i) (by omega);have h2:=rngB_at hr (i:=j) (by omega);have:dupB pl=true:=dupB_iff.2 (by
   unfold piF at e;rcases Nat.lt_or_gt_of_ne hij with h | h
   ·exact ⟨j,i,h,by omega,by omega⟩
   ·exact ⟨i,j,h,by omega,by omega⟩)
  rw [hd] at this;cases this
theorem monOK_of {p m:Int} {ml:List Int} {n:Int} {pl sl:List Int} {fr:Int} (h:monS p m ml n pl sl fr=0):
  ∃(pn mn N fn:Nat),p=pn∧m=mn∧n=N∧fr=fn∧FSh pn mn ml∧chkS p m ml=0∧MonOK pn mn ml pl sl fn N:=by
 obtain ⟨n0,n1,n2,n3,n4,n5,n6,n7,n8,n9⟩:=mon_ok h;obtain ⟨pn,mn,rfl,rfl,hf,hpr,hF⟩:=(chk_iff _ _ _).1 n0;obtain ⟨fn,rfl⟩:∃fn:Nat,fr=fn:=⟨fr.toNat,by omega⟩;obtain ⟨N,rfl⟩:∃N:Nat,n=N:=⟨n.toNat,by omega⟩;exact ⟨pn,mn,N,fn,rfl,rfl,rfl,rfl,hf,n0,hf.p2,hf.m1,hF,by omega,by omega,by omega,by omega,injN_of (by omega) n5 n8,fun i hi=> fac_at (by simpa only [Int.toNat_natCast] using n9) (by omega),by omega⟩
section
variable {p m:Nat} {ml pl sl:List Int} {fr N:Nat} {x:List Int}
theorem MonOK.img (h:MonOK p m ml pl sl fr N) {i:Nat} (hi:i < N):imgF p m ml pl sl fr x N (piF pl i)=vF p m ml sl fr x i:=plc_at h.inj _ N (Nat.le_refl _) i hi
theorem eil_getD' {N j:Nat} (h:j < N) (f:Nat→Int):(il N f).getD j 0=f j:=by
 rw [List.getD_eq_getElem?_getD,il_get h];rfl
theorem MonOK.imgE (h:MonOK p m ml pl sl fr N) {j:Nat} (hj:j < N):∃z:Nat,imgF p m ml pl sl fr x N j=z∧z < p ^ m:=by
 obtain ⟨i,hi,rfl⟩:=h.inj.surj hj;rw [h.img hi];exact ⟨_,rfl,kmul_lt (by have:=h.hp;omega) _ _⟩
end
section
variable {p m:Nat} {ml pl sl ql tl:List Int} {fr fs N:Nat} {x:List Int}
theorem img_ent (h:MonOK p m ml pl sl fr N):∀i,i < N→∃z:Nat,(il N (imgF p m ml pl sl fr x N)).getD i 0=z∧z < p ^ m:=fun i hi=> by
 rw [eil_getD' hi];exact h.imgE hi
end
end
section
open Go.RowKit
section
variable {p m:Nat} {ml:List Int} {N:Nat}
variable {l1 l2:List (List Int)} {n:Nat} {tl sc:List Int}
end
section
variable {p m:Nat} {ml:List Int} {n:Nat} {l1 l2:List (List Int)} {pl sl:List Int}
end
section
variable {σ:Type} {step:σ→List Int→List Int→σ × Int} {tl sc:List Int}
end
section
variable {p m:Nat} {ml:List Int} {n:Nat} {l1 l2:List (List Int)} {pl sl:List Int}
end
end
section
open Go.RowKit
section
variable {p m:Nat} {ml:List Int} {n:Nat} {l1 l2:List (List Int)} {pl sl tl sc:List Int} {nd:Nd}
variable {step:Nat × List Nd→List Int→List Int→(Nat × List Nd) × Int} {b:Nat}
end
end
section
open Go.RowKit
theorem grown_ex {w w':World} (h:Ex w w') (ob:Option Nat):w.grownBy w' ob:=⟨h.os,h.tape,h.output,h.size,fun k hk _=> h.block k hk⟩
section
variable {l:List Oper} {i:Nat} {u:Value}
end
section
end
end
section
open Go.RowKit
end
section
open Go.RowKit
end
section
open Go.RowKit
end
section
open Go.RowKit
end
section
def choose:Nat→Nat→Nat
 | _,0=> 1
 | 0,_ + 1=> 0
 | n + 1,k + 1=> choose n k + choose n (k + 1)
theorem choose_zero (n:Nat):choose n 0=1:=by cases n <;> rfl
theorem choose_succ (n k:Nat):choose (n + 1) (k + 1)=choose n k + choose n (k + 1):=rfl
theorem choose_big:∀(n k:Nat),n < k→choose n k=0
 | _,0,h=> by omega
 | 0,k + 1,_=> rfl
 | n + 1,k + 1,h=> by rw [choose_succ,choose_big n k (by omega),choose_big n (k + 1) (by omega)]
theorem choose_self:∀n,choose n n=1
 | 0=> rfl
 | n + 1=> by rw [choose_succ,choose_self n,choose_big n (n + 1) (by omega)]
theorem choose_mul:∀(n k:Nat),(k + 1) * choose (n + 1) (k + 1)=(n + 1) * choose n k
 | 0,0=> rfl
 | 0,k + 1=> by simp [choose]
 | n + 1,0=> by
  have ih:=choose_mul n 0;rw [choose_zero] at ih;rw [choose_succ (n + 1) 0,choose_zero];omega
 | n + 1,k + 1=> by
  have h1:=choose_mul n k;have h2:=choose_mul n (k + 1);rw [choose_succ (n + 1) (k + 1),Nat.mul_add,h2];have h3:=choose_succ n k;have h4:(k + 1 + 1) * choose (n + 1) (k + 1)=(k + 1) * choose (n + 1) (k + 1) + choose (n + 1) (k + 1):=by rw [Nat.add_mul];omega
  rw [h4,h1,h3];rw [Nat.add_mul (n + 1) 1,Nat.mul_add (n + 1)];omega
theorem choose_dvd' {p:Nat} (hp:2≤p) (h:prB p=true) {k:Nat} (h1:1≤k) (h2:k < p):p ∣ choose p k:=by
 obtain ⟨j,rfl⟩:∃j,k=j + 1:=⟨k - 1,by omega⟩;obtain ⟨q,rfl⟩:∃q,p=q + 1:=⟨p - 1,by omega⟩;have h3:=choose_mul q j;have h4:q + 1 ∣ (j + 1) * choose (q + 1) (j + 1):=⟨_,h3⟩;have hg:Nat.gcd (q + 1) (j + 1)=1:=by
  have g1:Nat.gcd (q + 1) (j + 1) ∣ q + 1:=Nat.gcd_dvd_left _ _;have g2:Nat.gcd (q + 1) (j + 1) ∣ j + 1:=Nat.gcd_dvd_right _ _;have g3:=Nat.le_of_dvd (by omega) g2;have g4:0 < Nat.gcd (q + 1) (j + 1):=Nat.gcd_pos_of_pos_left _ (by omega);apply Classical.byContradiction;intro hne;exact (prB_iff hp).1 h (Nat.gcd (q + 1) (j + 1)) (by omega) (by omega) (Nat.mod_eq_zero_of_dvd g1)
 exact Nat.Coprime.dvd_of_dvd_mul_left hg h4
theorem ks_trunc' {p m:Nat} (hp:1≤p) {g:Nat→Nat} {K:Nat}:∀n,K≤n→(∀j,K≤j→j < n→g j=0)→ks p m g n=ks p m g K
 | 0,h,_=> by
  obtain rfl:K=0:=by omega
  rfl
 | n + 1,h,hz=> by
  by_cases e:K=n + 1
  ·rw [e]
  ·show kadd p m (ks p m g n) (g n)=_
   rw [hz n (by omega) (by omega),kadd_zero hp (ks_lt hp _ _)];exact ks_trunc' hp n (by omega) fun j h1 h2=> hz j h1 (by omega)
section
variable {p m:Nat} {low:Vc}
def nsm (p m:Nat) (x:Nat):Nat→Nat
 | 0=> 0
 | c + 1=> kadd p m (nsm p m x c) x
theorem nsm_lt (hp:1≤p) (x:Nat):∀c,nsm p m x c < p ^ m
 | 0=> Nat.pow_pos (by omega)
 | c + 1=> kadd_lt hp _ _
theorem nsm_add (hp:1≤p) (x c:Nat):∀d,nsm p m x (c + d)=kadd p m (nsm p m x c) (nsm p m x d)
 | 0=> by rw [Nat.add_zero];exact (kadd_zero hp (nsm_lt hp x c)).symm
 | d + 1=> by
  show kadd p m (nsm p m x (c + d)) x=kadd p m (nsm p m x c) (kadd p m (nsm p m x d) x)
  rw [nsm_add hp x c d,kadd_assoc hp]
theorem nsm_mul (hp:1≤p) (x y:Nat):∀c,kmul p m low (nsm p m x c) y=nsm p m (kmul p m low x y) c
 | 0=> kmul_zero hp y
 | c + 1=> by
  show kmul p m low (kadd p m (nsm p m x c) x) y=kadd p m (nsm p m (kmul p m low x y) c) (kmul p m low x y)
  rw [kmul_kadd hp,nsm_mul hp x y c]
theorem nsm_rep (hp:1≤p) (x:Nat):∀c:Nat,nsm p m x c=rep p m (fun j=> (c:Int) * dig p m x j)
 | 0=> by
  show 0=_
  rw [show (fun j=> ((0:Nat):Int) * dig p m x j)=fun _=> 0 from by funext j;simp];exact (rep_zero hp).symm
 | c + 1=> by
  show kadd p m (nsm p m x c) x=_
  rw [nsm_rep hp x c];unfold kadd;refine rep_congr fun j=> ?_;have h:=dig_rep_eqm (m:=m) hp (v:=fun j=> (c:Int) * dig p m x j) (fun j hj=> by show (c:Int) * dig p m x j=0;rw [dig_sup p m x j hj];simp) j;have h2:=eqm_add h (rfl:dig p m x j % (p:Int)=dig p m x j % (p:Int));show (dig p m (rep p m _) j + dig p m x j) % (p:Int)=((c + 1:Nat):Int) * dig p m x j % (p:Int)
  rw [h2]
  congr 1
  rw [Int.natCast_add,Int.add_mul];simp
theorem nsm_p (hp:1≤p) (x:Nat):nsm p m x p=0:=by
 rw [nsm_rep hp];have:rep p m (fun j=> (p:Int) * dig p m x j)=rep p m (fun _=> 0):=rep_congr fun j=> by
  show (p:Int) * dig p m x j % (p:Int)=0 % (p:Int)
  rw [Int.mul_emod_right];simp
 rw [this,rep_zero hp]
theorem nsm_dvd (hp:1≤p) (x:Nat) {c:Nat} (h:p ∣ c):nsm p m x c=0:=by
 obtain ⟨d,rfl⟩:=h
 induction d with
 | zero=> rfl
 | succ d ih=> rw [Nat.mul_add,Nat.mul_one,nsm_add hp,ih,nsm_p hp,kadd_zero hp (Nat.pow_pos (by omega))]
def bnF (p m:Nat) (low:Vc) (a b n k:Nat):Nat:=nsm p m (kmul p m low (kpw p m low a (n - k)) (kpw p m low b k)) (choose n k)
theorem bn_step (hp:2≤p) (hm:1≤m) (a b n:Nat):∀K,ks p m (bnF p m low a b (n + 1)) (K + 1)=kadd p m (kmul p m low (ks p m (bnF p m low a b n) (K + 1)) a) (kmul p m low (ks p m (bnF p m low a b n) K) b)
 | 0=> by
  have hq:0 < p ^ m:=Nat.pow_pos (by omega);show kadd p m 0 (bnF p m low a b (n + 1) 0)=kadd p m (kmul p m low (kadd p m 0 (bnF p m low a b n 0)) a) (kmul p m low 0 b)
  rw [kmul_zero (by omega),kadd_zero (by omega) (kmul_lt (by omega) _ _)];have e:∀n,bnF p m low a b n 0=kpw p m low a n:=fun n=> by
   unfold bnF;rw [choose_zero];show kadd p m 0 (kmul p m low (kpw p m low a n) 1)=_
   rw [kmul_one hp hm (kpw_lt hp hm _ _),zero_kadd (by omega) (kpw_lt hp hm _ _)]
  rw [e,e,zero_kadd (by omega) (kpw_lt hp hm _ _),zero_kadd (by omega) (kpw_lt hp hm _ _)];rfl
 | K + 1=> by
  have ih:=bn_step hp hm a b n K;have e1:kmul p m low (bnF p m low a b n K) b=nsm p m (kmul p m low (kpw p m low a (n - K)) (kpw p m low b (K + 1))) (choose n K):=by
   unfold bnF;rw [nsm_mul (by omega),kmul_assoc (by omega)];rfl
  have e2:kmul p m low (bnF p m low a b n (K + 1)) a=nsm p m (kmul p m low (kpw p m low a (n - K)) (kpw p m low b (K + 1))) (choose n (K + 1)):=by
   unfold bnF;rw [nsm_mul (by omega)];by_cases h:K + 1≤n
   ·rw [kmul_assoc (by omega),kmul_comm (kpw p m low b (K + 1)) a,←kmul_assoc (by omega),show n - K=n - (K + 1) + 1 from by omega];rfl
   ·rw [choose_big n (K + 1) (by omega)];rfl
  have e3:bnF p m low a b (n + 1) (K + 1)=kadd p m (kmul p m low (bnF p m low a b n K) b) (kmul p m low (bnF p m low a b n (K + 1)) a):=by
   rw [e1,e2];unfold bnF;rw [choose_succ,nsm_add (by omega),show n + 1 - (K + 1)=n - K from by omega]
  show kadd p m (ks p m (bnF p m low a b (n + 1)) (K + 1)) (bnF p m low a b (n + 1) (K + 1))=kadd p m (kmul p m low (kadd p m (ks p m (bnF p m low a b n) (K + 1)) (bnF p m low a b n (K + 1))) a) (kmul p m low (kadd p m (ks p m (bnF p m low a b n) K) (bnF p m low a b n K)) b)
  rw [ih,e3,kmul_kadd (by omega),kmul_kadd (by omega)];rw [kadd_comm (kmul p m low (bnF p m low a b n K) b),kadd4 (by omega)]
theorem bn_thm (hp:2≤p) (hm:1≤m) (a b:Nat):∀n,kpw p m low (kadd p m a b) n=ks p m (bnF p m low a b n) (n + 1)
 | 0=> by
  show 1=kadd p m 0 (bnF p m low a b 0 0)
  have e:bnF p m low a b 0 0=1:=by
   show kadd p m 0 (kmul p m low 1 1)=1
   rw [kmul_one hp hm (one_lt_q hp hm),zero_kadd (by omega) (one_lt_q hp hm)]
  rw [e,zero_kadd (by omega) (one_lt_q hp hm)]
 | n + 1=> by
  rw [bn_step hp hm];have e:ks p m (bnF p m low a b n) (n + 1 + 1)=ks p m (bnF p m low a b n) (n + 1):=by
   show kadd p m (ks p m (bnF p m low a b n) (n + 1)) (bnF p m low a b n (n + 1))=_
   have:bnF p m low a b n (n + 1)=0:=by
    unfold bnF;rw [choose_big n (n + 1) (by omega)];rfl
   rw [this,kadd_zero (by omega) (ks_lt (by omega) _ _)]
  rw [e,←bn_thm hp hm a b n,←kmul_kadd_r (by omega)];rfl
theorem kpw_add_p (hp:2≤p) (hm:1≤m) (hpr:prB p=true) (a b:Nat):kpw p m low (kadd p m a b) p=kadd p m (kpw p m low a p) (kpw p m low b p):=by
 rw [bn_thm hp hm];show kadd p m (ks p m (bnF p m low a b p) p) (bnF p m low a b p p)=_
 have e1:bnF p m low a b p p=kpw p m low b p:=by
  unfold bnF;rw [choose_self,Nat.sub_self];show kadd p m 0 (kmul p m low 1 _)=_
  rw [one_kmul hp hm (kpw_lt hp hm _ _),zero_kadd (by omega) (kpw_lt hp hm _ _)]
 have e2:ks p m (bnF p m low a b p) p=kpw p m low a p:=by
  rw [ks_trunc' (by omega) (g:=bnF p m low a b p) (K:=1) p (by omega) fun j h1 h2=> nsm_dvd (by omega) _ (choose_dvd' hp hpr (by omega) h2)];show kadd p m 0 (nsm p m (kmul p m low (kpw p m low a (p - 0)) 1) (choose p 0))=_
  rw [choose_zero,Nat.sub_zero,kmul_one hp hm (kpw_lt hp hm _ _)];show kadd p m 0 (kadd p m 0 (kpw p m low a p))=_
  rw [zero_kadd (by omega) (kadd_lt (by omega) _ _),zero_kadd (by omega) (kpw_lt hp hm _ _)]
 rw [e1,e2]
theorem frb_addx (hp:2≤p) (hm:1≤m) (hpr:prB p=true) (a b:Nat):∀k,frb p m low (kadd p m a b) k=kadd p m (frb p m low a k) (frb p m low b k)
 | 0=> rfl
 | k + 1=> by
  show kpw p m low (frb p m low (kadd p m a b) k) p=_
  rw [frb_addx hp hm hpr a b k,kpw_add_p hp hm hpr];rfl
theorem frb_ks (hp:2≤p) (hm:1≤m) (hpr:prB p=true) (g:Nat→Nat) (k:Nat):∀n,frb p m low (ks p m g n) k=ks p m (fun j=> frb p m low (g j) k) n
 | 0=> frb_zero hp hm k
 | n + 1=> by
  show frb p m low (kadd p m (ks p m g n) (g n)) k=_
  rw [frb_addx hp hm hpr,frb_ks hp hm hpr g k n];rfl
end
end
end Go.Proofs.YtgdmlmhpineibaaGreat
