/- Plain: products of rows, row operations, pivots, the vectors of the kernel. -/
import Derived.Test.YtgdmlmhpineibaaGreatZg11
namespace Go.Proofs.YtgdmlmhpineibaaGreat
set_option linter.unusedVariables false
set_option linter.unusedSimpArgs false
open Go.RowKit
theorem kneg_of' {p m:Nat} (hp:1≤p) {a b:Nat} (hb:b < p ^ m) (h:kadd p m a b=0):b=kneg p m a:=by
 have h1:kadd p m (kneg p m a) (kadd p m a b)=b:=by
  rw [←kadd_assoc hp,kadd_comm (kneg p m a),kadd_kneg hp,zero_kadd hp hb]
 rw [h,kadd_zero hp (kneg_lt hp a)] at h1;exact h1.symm
theorem kneg_mul' {p m:Nat} {low:Vc} (hp:1≤p) (x y:Nat):kmul p m low (kneg p m x) y=kneg p m (kmul p m low x y):=by
 refine kneg_of' hp (kmul_lt hp _ _) ?_;rw [←kmul_kadd hp,kadd_kneg hp,kmul_zero hp]
theorem kmul_zero_r {p m:Nat} {low:Vc} (hp:1≤p) (x:Nat):kmul p m low x 0=0:=by rw [kmul_comm,kmul_zero hp]
theorem kin_code {q:Nat} {x:Int} (h0:0≤x) (h:x < q):((kin q x:Nat):Int)=x:=by unfold kin;rw [if_pos ⟨h0,h⟩];omega
theorem kin_zero (q:Nat):kin q 0=0:=by unfold kin;split <;> rfl
theorem entS_rng {q:Nat} {r:List Int} (h:entS q r=0):∀x∈r,0≤x∧x < q:=fun x hx=> by
 unfold entS at h;split at h
 ·rename_i h1;have:=List.all_eq_true.1 h1 x hx;unfold isB at this;exact of_decide_eq_true this
 ·cases h
theorem entS_of {q:Nat} {r:List Int} (h:∀x∈r,0≤x∧x < q):entS q r=0:=by
 unfold entS;rw [if_pos];rw [List.all_eq_true];intro x hx;unfold isB;exact decide_eq_true (h x hx)
theorem kinv_mul {p m:Nat} {ml:List Int} (hp:2≤p) (hm:1≤m) (hF:IsF p m (lw ml)) {z:Nat} (h1:1≤z) (h2:z < p ^ m):kmul p m (lw ml) z (kinv p m ml z)=1:=by
 obtain ⟨y,y1,y2,y3⟩:=hF.inv hp hm h1 h2;rw [kinv_eq hp hm hF h2 h1 y2 y3,y3]
section
variable {p m:Nat} {ml:List Int} {N:Nat}
theorem il_len (N:Nat) (x:Nat→Int):(il N x).length=N:=by unfold il;simp
theorem dot_one (hp:2≤p) {r:List Int} (hr:r.length=N) {x y:Nat→Int} {i:Nat} (hx:x i=0) (h:∀j,j < N→j≠i→r.getD j 0≠0→y j=x j):∀n,n≤N→
  kdot p m ml (r.take n) ((il N y).take n) 0=if i < n then kadd p m (kdot p m ml (r.take n) ((il N x).take n) 0) (kmul p m (lw ml) (kin (p ^ m) (r.getD i 0)) (kin (p ^ m) (y i))) else kdot p m ml (r.take n) ((il N x).take n) 0
 | 0,_=> by simp [kdot]
 | n + 1,hn=> by
  have ih:=dot_one hp hr hx h n (by omega);have hq:1≤p ^ m:=Nat.pow_pos (by omega);have hrn:r[n]?=some (r.getD n 0):=by
   rw [List.getD_eq_getElem?_getD,List.getElem?_eq_getElem (by omega)];rfl
  rw [kdot_step r (il N y) n 0 _ _ hrn (il_get (show n < N by omega) _),kdot_step r (il N x) n 0 _ _ hrn (il_get (show n < N by omega) _),ih];by_cases e:n=i
  ·subst e;rw [if_neg (by omega),if_pos (by omega),hx,kin_zero,kmul_zero_r (by omega),kadd_zero (by omega) (kdot_lt (by omega) _ _ _ (by omega))]
  ·have he:kmul p m (lw ml) (kin (p ^ m) (r.getD n 0)) (kin (p ^ m) (y n))=kmul p m (lw ml) (kin (p ^ m) (r.getD n 0)) (kin (p ^ m) (x n)):=by
    by_cases h0:r.getD n 0=0
    ·rw [h0,kin_zero,kmul_zero (by omega),kmul_zero (by omega)]
    ·rw [h n (by omega) e h0]
   rw [he];by_cases hi:i < n
   ·rw [if_pos hi,if_pos (by omega),kadd_assoc (by omega),kadd_assoc (by omega)]
    congr 1
    exact kadd_comm _ _
   ·rw [if_neg hi,if_neg (by omega)]
theorem dot_full {r:List Int} (hr:r.length=N) (x:Nat→Int):kdot p m ml (r.take N) ((il N x).take N) 0=kdot p m ml r (il N x) 0:=kdot_take _ _ _ _ (by rw [hr];omega)
theorem dot_at (hp:2≤p) {r:List Int} (hr:r.length=N) {x y:Nat→Int} {i:Nat} (hi:i < N) (hx:x i=0) (h:∀j,j < N→j≠i→r.getD j 0≠0→y j=x j):
  kdot p m ml r (il N y) 0=kadd p m (kdot p m ml r (il N x) 0) (kmul p m (lw ml) (kin (p ^ m) (r.getD i 0)) (kin (p ^ m) (y i))):=by
 have:=dot_one (ml:=ml) (m:=m) hp hr hx h N (Nat.le_refl _);rw [if_pos hi,dot_full hr,dot_full hr] at this;exact this
end
section
variable {p m:Nat} {ml:List Int} {N R:Nat}
def dt (p m:Nat) (ml:List Int) (N:Nat) (f x:Nat→Int):Nat:=kdot p m ml (il N f) (il N x) 0
def dtK (p m:Nat) (ml:List Int) (N:Nat) (f x:Nat→Int) (n:Nat):Nat:=kdot p m ml ((il N f).take n) ((il N x).take n) 0
theorem dtK_zero (f x:Nat→Int):dtK p m ml N f x 0=0:=by unfold dtK;simp [kdot]
theorem dtK_succ (f x:Nat→Int) {n:Nat} (hn:n < N):dtK p m ml N f x (n + 1)=kadd p m (dtK p m ml N f x n) (kmul p m (lw ml) (kin (p ^ m) (f n)) (kin (p ^ m) (x n))):=
 kdot_step _ _ n 0 _ _ (il_get hn f) (il_get hn x)
theorem dtK_all (f x:Nat→Int):dtK p m ml N f x N=dt p m ml N f x:=kdot_take _ _ _ _ (by rw [il_len,il_len];omega)
theorem dtK_lt (hp:2≤p) (f x:Nat→Int) (n:Nat):dtK p m ml N f x n < p ^ m:=kdot_lt (by omega) _ _ _ (Nat.pow_pos (by omega))
theorem dt_lt (hp:2≤p) (f x:Nat→Int):dt p m ml N f x < p ^ m:=kdot_lt (by omega) _ _ _ (Nat.pow_pos (by omega))
theorem kdot_sym2:∀(l k:List Int) (s:Nat),kdot p m ml l k s=kdot p m ml k l s
 | x :: l,y :: k,s=> by unfold kdot;rw [kmul_comm,kdot_sym2 l k]
 | [], [],s=> rfl
 | [],y :: k,s=> by unfold kdot;rfl
 | x :: l, [],s=> by unfold kdot;rfl
theorem dt_symm (f x:Nat→Int):dt p m ml N f x=dt p m ml N x f:=kdot_sym2 _ _ _
theorem dt_congr {f f' x x':Nat→Int} (hf:∀j,j < N→f j=f' j) (hx:∀j,j < N→x j=x' j):dt p m ml N f x=dt p m ml N f' x':=by
 have key:∀n,n≤N→dtK p m ml N f x n=dtK p m ml N f' x' n:=fun n=> by
  induction n with
  | zero=> intro _;rw [dtK_zero,dtK_zero]
  | succ n ih=> intro hn;rw [dtK_succ _ _ (by omega),dtK_succ _ _ (by omega),ih (by omega),hf n (by omega),hx n (by omega)]
 rw [←dtK_all,←dtK_all,key N (Nat.le_refl _)]
theorem dt_zero (hp:2≤p) {f x:Nat→Int} (hf:∀j,j < N→f j=0):dt p m ml N f x=0:=by
 have key:∀n,n≤N→dtK p m ml N f x n=0:=fun n=> by
  induction n with
  | zero=> intro _;rw [dtK_zero]
  | succ n ih=> intro hn;rw [dtK_succ _ _ (by omega),ih (by omega),hf n (by omega),kin_zero,kmul_zero (by omega),kadd_zero (by omega) (Nat.pow_pos (by omega))]
 rw [←dtK_all,key N (Nat.le_refl _)]
def sclF (p m:Nat) (ml:List Int) (c:Nat) (f:Nat→Int) (j:Nat):Int:=((kmul p m (lw ml) c (kin (p ^ m) (f j)):Nat):Int)
def addF (p m:Nat) (ml:List Int) (v:Nat→Int) (c:Nat) (u:Nat→Int) (j:Nat):Int:=
 if u j=0 then v j else ((kadd p m (kin (p ^ m) (v j)) (kmul p m (lw ml) c (kin (p ^ m) (u j))):Nat):Int)
theorem kmul_kadd_r {low:Vc} (hp:1≤p) (a x y:Nat):kmul p m low a (kadd p m x y)=kadd p m (kmul p m low a x) (kmul p m low a y):=by
 rw [kmul_comm,kmul_kadd hp,kmul_comm x,kmul_comm y]
theorem dt_scl (hp:2≤p) (c:Nat) (f x:Nat→Int):dt p m ml N (sclF p m ml c f) x=kmul p m (lw ml) c (dt p m ml N f x):=by
 have key:∀n,n≤N→dtK p m ml N (sclF p m ml c f) x n=kmul p m (lw ml) c (dtK p m ml N f x n):=fun n=> by
  induction n with
  | zero=> intro _;rw [dtK_zero,dtK_zero,kmul_zero_r (by omega)]
  | succ n ih=>
   intro hn;rw [dtK_succ _ _ (by omega),dtK_succ _ _ (by omega),ih (by omega),kmul_kadd_r (by omega)]
   congr 1
   unfold sclF;rw [kin_of (kmul_lt (by omega) _ _),kmul_assoc (by omega)]
 rw [←dtK_all,←dtK_all,key N (Nat.le_refl _)]
theorem kadd4 (hp:1≤p) (a b c d:Nat):kadd p m (kadd p m a b) (kadd p m c d)=kadd p m (kadd p m a c) (kadd p m b d):=by
 rw [kadd_assoc hp,kadd_assoc hp]
 congr 1
 rw [←kadd_assoc hp,←kadd_assoc hp,kadd_comm b c]
theorem dt_add (hp:2≤p) (v:Nat→Int) (c:Nat) (u x:Nat→Int):dt p m ml N (addF p m ml v c u) x=kadd p m (dt p m ml N v x) (kmul p m (lw ml) c (dt p m ml N u x)):=by
 have hq:1≤p ^ m:=Nat.pow_pos (by omega);have key:∀n,n≤N→dtK p m ml N (addF p m ml v c u) x n=kadd p m (dtK p m ml N v x n) (kmul p m (lw ml) c (dtK p m ml N u x n)):=fun n=> by
  induction n with
  | zero=> intro _;rw [dtK_zero,dtK_zero,dtK_zero,kmul_zero_r (by omega),kadd_zero (by omega) (by omega)]
  | succ n ih=>
   intro hn;rw [dtK_succ _ _ (by omega),dtK_succ _ _ (by omega),dtK_succ _ _ (by omega),ih (by omega),kmul_kadd_r (by omega),kadd4 (by omega)]
   congr 1
   unfold addF;by_cases h0:u n=0
   ·rw [if_pos h0,h0,kin_zero,kmul_zero (by omega),kmul_zero_r (by omega),kadd_zero (by omega) (kmul_lt (by omega) _ _)]
   ·rw [if_neg h0,kin_of (kadd_lt (by omega) _ _),kmul_kadd (by omega),kmul_assoc (by omega)]
 rw [←dtK_all,←dtK_all,←dtK_all,key N (Nat.le_refl _)]
def Sol (p m:Nat) (ml:List Int) (N R:Nat) (a:Nat→Nat→Int) (x:Nat→Int):Prop:=∀i,i < R→dt p m ml N (a i) x=0
def swpA (a:Nat→Nat→Int) (s k:Nat):Nat→Nat→Int:=fun i=> if i=s then a k else if i=k then a s else a i
variable {a:Nat→Nat→Int} {x:Nat→Int}
theorem Sol.swp {s k:Nat} (hs:s < R) (hk:k < R):Sol p m ml N R (swpA a s k) x↔Sol p m ml N R a x:=by
 unfold Sol swpA;constructor
 ·intro h i hi;by_cases e:i=s
  ·subst e;by_cases e2:k=i
   ·subst e2;have:=h k hk;rwa [if_pos rfl] at this
   ·have:=h k hk;rwa [if_neg e2,if_pos rfl] at this
  ·by_cases e2:i=k
   ·subst e2;have:=h s hs;rwa [if_pos rfl] at this
   ·have:=h i hi;rwa [if_neg e,if_neg e2] at this
 ·intro h i hi;by_cases e:i=s
  ·rw [if_pos e];exact h k hk
  ·rw [if_neg e];by_cases e2:i=k
   ·rw [if_pos e2];exact h s hs
   ·rw [if_neg e2];exact h i hi
theorem Sol.scl (hp:2≤p) (hm:1≤m) (hF:IsF p m (lw ml)) {s c:Nat} (hs:s < R) (h1:1≤c) (h2:c < p ^ m):Sol p m ml N R (upd a s (sclF p m ml c (a s))) x↔Sol p m ml N R a x:=by
 unfold Sol;have key:dt p m ml N (sclF p m ml c (a s)) x=0↔dt p m ml N (a s) x=0:=by
  rw [dt_scl hp];constructor
  ·intro h;by_cases e:dt p m ml N (a s) x=0
   ·exact e
   ·have:=hF.ne_zero hp hm h1 h2 (show 1≤dt p m ml N (a s) x by omega) (dt_lt hp _ _);omega
  ·intro h;rw [h,kmul_zero_r (by omega)]
 constructor
 ·intro h i hi;have:=h i hi;by_cases e:i=s
  ·subst e;rw [upd_same] at this;exact key.1 this
  ·rwa [upd_ne _ _ e] at this
 ·intro h i hi;by_cases e:i=s
  ·subst e;rw [upd_same];exact key.2 (h i hi)
  ·rw [upd_ne _ _ e];exact h i hi
theorem Sol.add (hp:2≤p) {s i c:Nat} (hs:s < R) (hi:i < R) (hne:i≠s):Sol p m ml N R (upd a i (addF p m ml (a i) c (a s))) x↔Sol p m ml N R a x:=by
 unfold Sol;constructor
 ·intro h k hk;have hs0:=h s hs;rw [upd_ne _ _ (fun e=> hne e.symm)] at hs0;have:=h k hk;by_cases e:k=i
  ·subst e;rw [upd_same,dt_add hp,hs0,kmul_zero_r (by omega),kadd_zero (by omega) (dt_lt hp _ _)] at this;exact this
  ·rwa [upd_ne _ _ e] at this
 ·intro h k hk;by_cases e:k=i
  ·subst e;rw [upd_same,dt_add hp,h k hk,h s hs,kmul_zero_r (by omega),kadd_zero (by omega) (Nat.pow_pos (by omega))]
  ·rw [upd_ne _ _ e];exact h k hk
def Rng (p m R N:Nat) (a:Nat→Nat→Int):Prop:=∀i,i < R→∀j,j < N→0≤a i j∧a i j < ((p ^ m:Nat):Int)
theorem Rng.swp {s k:Nat} (hs:s < R) (hk:k < R) (h:Rng p m R N a):Rng p m R N (swpA a s k):=fun i hi j hj=> by
 unfold swpA;by_cases e:i=s
 ·rw [if_pos e];exact h k hk j hj
 ·rw [if_neg e];by_cases e2:i=k
  ·rw [if_pos e2];exact h s hs j hj
  ·rw [if_neg e2];exact h i hi j hj
theorem Rng.scl (hp:1≤p) {s c:Nat} (h:Rng p m R N a):Rng p m R N (upd a s (sclF p m ml c (a s))):=fun i hi j hj=> by
 by_cases e:i=s
 ·subst e;rw [upd_same];unfold sclF;have:=kmul_lt (p:=p) (m:=m) (low:=lw ml) hp c (kin (p ^ m) (a i j));omega
 ·rw [upd_ne _ _ e];exact h i hi j hj
theorem Rng.add (hp:1≤p) {s i c:Nat} (h:Rng p m R N a):Rng p m R N (upd a i (addF p m ml (a i) c (a s))):=fun k hk j hj=> by
 by_cases e:k=i
 ·subst e;rw [upd_same];unfold addF;split
  ·exact h k hk j hj
  ·have:=kadd_lt (p:=p) (m:=m) hp (kin (p ^ m) (a k j)) (kmul p m (lw ml) c (kin (p ^ m) (a s j)));omega
 ·rw [upd_ne _ _ e];exact h k hk j hj
structure PV (p m R N:Nat) (a:Nat→Nat→Int) (piv:List Nat) (c:Nat):Prop where
 le:piv.length≤R
 rng:Rng p m R N a
 lt:∀(j q:Nat),piv[j]?=some q→q < c
 one:∀(j q:Nat),piv[j]?=some q→a j q=1
 zer:∀(j q i:Nat),piv[j]?=some q→i < R→i≠j→a i q=0
 tail:∀(i j:Nat),piv.length≤i→i < R→j < c→a i j=0
 lead:∀(j q k:Nat),piv[j]?=some q→k < q→a j k=0
 asc:∀(i j q r:Nat),i < j→piv[i]?=some q→piv[j]?=some r→q < r
variable {piv:List Nat} {c:Nat}
theorem PV.init (h:Rng p m R N a):PV p m R N a [] 0:=⟨by simp,h,fun j q h=> by simp at h,fun j q h=> by simp at h,fun j q i h=> by simp at h,fun i j _ _ h=> by omega,fun j q k h=> by simp at h,fun i j q r _ h=> by simp at h⟩
theorem PV.none (h:PV p m R N a piv c) (hz:∀k,piv.length≤k→k < R→a k c=0):PV p m R N a piv (c + 1):=
 ⟨h.le,h.rng,fun j q hj=> by have:=h.lt j q hj;omega,h.one,h.zer,fun i j h1 h2 h3=> by
  by_cases e:j=c
  ·rw [e];exact hz i h1 h2
  ·exact h.tail i j h1 h2 (by omega),h.lead,h.asc⟩
theorem PV.swp (h:PV p m R N a piv c) {k:Nat} (hk1:piv.length≤k) (hk:k < R):PV p m R N (swpA a piv.length k) piv c:=by
 refine ⟨h.le,h.rng.swp (by omega) hk,h.lt,fun j q hj=> ?_,fun j q i hj hi hne=> ?_,fun i j h1 h2 h3=> ?_,fun j q t hj ht=> ?_,h.asc⟩
 ·have hjl:=(List.getElem?_eq_some_iff.1 hj).1;unfold swpA;rw [if_neg (by omega),if_neg (by omega)];exact h.one j q hj
 ·have hjl:=(List.getElem?_eq_some_iff.1 hj).1;unfold swpA;by_cases e:i=piv.length
  ·rw [if_pos e];exact h.zer j q k hj hk (by omega)
  ·rw [if_neg e];by_cases e2:i=k
   ·rw [if_pos e2];exact h.zer j q _ hj (by omega) (by omega)
   ·rw [if_neg e2];exact h.zer j q i hj hi hne
 ·unfold swpA;by_cases e:i=piv.length
  ·rw [if_pos e];exact h.tail k j hk1 hk h3
  ·rw [if_neg e];by_cases e2:i=k
   ·rw [if_pos e2];exact h.tail _ j (Nat.le_refl _) (by omega) h3
   ·rw [if_neg e2];exact h.tail i j h1 h2 h3
 ·have hjl:=(List.getElem?_eq_some_iff.1 hj).1;unfold swpA;rw [if_neg (by omega),if_neg (by omega)];exact h.lead j q t hj ht
theorem PV.scl (hp:1≤p) (h:PV p m R N a piv c) (hs:piv.length < R) {k:Nat}:PV p m R N (upd a piv.length (sclF p m ml k (a piv.length))) piv c:=by
 have hz:∀j,a piv.length j=0→sclF p m ml k (a piv.length) j=0:=fun j hj=> by
  unfold sclF;rw [hj,kin_zero,kmul_zero_r hp];rfl
 refine ⟨h.le,h.rng.scl hp,h.lt,fun j q hj=> ?_,fun j q i hj hi hne=> ?_,fun i j h1 h2 h3=> ?_,fun j q t hj ht=> ?_,h.asc⟩
 ·have hjl:=(List.getElem?_eq_some_iff.1 hj).1;rw [upd_ne _ _ (by omega)];exact h.one j q hj
 ·have hjl:=(List.getElem?_eq_some_iff.1 hj).1;by_cases e:i=piv.length
  ·subst e;rw [upd_same];exact hz q (h.zer j q _ hj hi hne)
  ·rw [upd_ne _ _ e];exact h.zer j q i hj hi hne
 ·by_cases e:i=piv.length
  ·subst e;rw [upd_same];exact hz j (h.tail _ j (Nat.le_refl _) h2 h3)
  ·rw [upd_ne _ _ e];exact h.tail i j h1 h2 h3
 ·have hjl:=(List.getElem?_eq_some_iff.1 hj).1;rw [upd_ne _ _ (by omega)];exact h.lead j q t hj ht
theorem PV.add (hp:1≤p) (h:PV p m R N a piv c) (hs:piv.length < R) {i k:Nat} (hi:i < R) (hne:i≠piv.length):PV p m R N (upd a i (addF p m ml (a i) k (a piv.length))) piv c:=by
 have hz:∀j,a piv.length j=0→addF p m ml (a i) k (a piv.length) j=a i j:=fun j hj=> by
  unfold addF;rw [if_pos hj]
 refine ⟨h.le,h.rng.add hp,h.lt,fun j q hj=> ?_,fun j q r hj hr hne2=> ?_,fun r j h1 h2 h3=> ?_,fun j q t hj ht=> ?_,h.asc⟩
 ·have hjl:=(List.getElem?_eq_some_iff.1 hj).1;by_cases e:j=i
  ·subst e;rw [upd_same,hz q (h.zer j q _ hj hs (by omega))];exact h.one j q hj
  ·rw [upd_ne _ _ e];exact h.one j q hj
 ·have hjl:=(List.getElem?_eq_some_iff.1 hj).1;by_cases e:r=i
  ·subst e;rw [upd_same,hz q (h.zer j q _ hj hs (by omega))];exact h.zer j q r hj hr hne2
  ·rw [upd_ne _ _ e];exact h.zer j q r hj hr hne2
 ·by_cases e:r=i
  ·subst e;rw [upd_same,hz j (h.tail _ j (Nat.le_refl _) hs h3)];exact h.tail r j h1 h2 h3
  ·rw [upd_ne _ _ e];exact h.tail r j h1 h2 h3
 ·by_cases e:j=i
  ·subst e;rw [upd_same,hz t (h.tail _ t (Nat.le_refl _) hs (by have:=h.lt j q hj;omega))];exact h.lead j q t hj ht
  ·rw [upd_ne _ _ e];exact h.lead j q t hj ht
theorem PV.done (h:PV p m R N a piv c) (hs:piv.length < R) (h1:a piv.length c=1) (hz:∀i,i < R→i≠piv.length→a i c=0):PV p m R N a (piv ++ [c]) (c + 1):=by
 have key:∀(j q:Nat),(piv ++ [c])[j]?=some q→piv[j]?=some q∨(j=piv.length∧q=c):=fun j q hj=> by
  by_cases e:j < piv.length
  ·rw [List.getElem?_append_left e] at hj;exact .inl hj
  ·rw [List.getElem?_append_right (by omega)] at hj;obtain ⟨hl,hv⟩:=List.getElem?_eq_some_iff.1 hj;simp at hl hv;exact .inr ⟨by omega,hv.symm⟩
 refine ⟨by simp;omega,h.rng,fun j q hj=> ?_,fun j q hj=> ?_,fun j q i hj hi hne=> ?_,fun i j k1 k2 k3=> ?_,fun j q t hj ht=> ?_,fun i j q r hij hi hj=> ?_⟩
 ·rcases key j q hj with k | ⟨_,rfl⟩
  ·have:=h.lt j q k;omega
  ·omega
 ·rcases key j q hj with k | ⟨rfl,rfl⟩
  ·exact h.one j q k
  ·exact h1
 ·rcases key j q hj with k | ⟨rfl,rfl⟩
  ·exact h.zer j q i k hi hne
  ·exact hz i hi hne
 ·simp at k1;by_cases e:j=c
  ·rw [e];exact hz i k2 (by omega)
  ·exact h.tail i j (by omega) k2 (by omega)
 ·rcases key j q hj with k | ⟨rfl,rfl⟩
  ·exact h.lead j q t k ht
  ·exact h.tail _ t (Nat.le_refl _) hs ht
 ·rcases key j r hj with k | ⟨rfl,rfl⟩
  ·rcases key i q hi with k2 | ⟨rfl,rfl⟩
   ·exact h.asc i j q r hij k2 k
   ·have:=(List.getElem?_eq_some_iff.1 k).1;omega
  ·rcases key i q hi with k2 | ⟨rfl,rfl⟩
   ·exact h.lt i q k2
   ·omega
theorem PV.dist (h:PV p m R N a piv c) {i j q:Nat} (hi:piv[i]?=some q) (hj:piv[j]?=some q):i=j:=by
 have hjl:=(List.getElem?_eq_some_iff.1 hi).1;have hle:=h.le;by_cases e:i=j
 ·exact e
 ·exfalso;have h1:=h.one i q hi;have h2:=h.zer j q i hj (by omega) e;omega
structure Kv (p m:Nat) (a:Nat→Nat→Int) (piv:List Nat) (c k:Nat) (x:Nat→Int):Prop where
 c1:x c=1
 pv:∀(i q:Nat),i < k→piv[i]?=some q→x q=((kneg p m (kin (p ^ m) (a i c)):Nat):Int)
 z:∀j,j≠c→(∀i,i < k→piv[i]?≠some j)→x j=0
theorem Kv.zero:Kv p m a piv c 0 (upd (fun _=> 0) c 1):=⟨upd_same _ _ _,fun i q h=> absurd h (by omega),fun j hj _=> upd_ne _ _ hj⟩
theorem Kv.succ {c0 k q:Nat} (hP:PV p m R N a piv c0) (h:Kv p m a piv c k x) (hq:piv[k]?=some q) (hc:q≠c):Kv p m a piv c (k + 1) (upd x q ((kneg p m (kin (p ^ m) (a k c)):Nat):Int)):=by
 refine ⟨by rw [upd_ne _ _ (fun e=> hc e.symm)];exact h.c1,fun i r hi hr=> ?_,fun j hj hall=> ?_⟩
 ·by_cases e:i=k
  ·subst e;rw [hq] at hr;injection hr with hr;subst hr;rw [upd_same]
  ·have:r≠q:=fun e2=> e (hP.dist (by rw [←e2];exact hr) hq);rw [upd_ne _ _ this];exact h.pv i r (by omega) hr
 ·have:j≠q:=fun e=> hall k (by omega) (by rw [e];exact hq);rw [upd_ne _ _ this];exact h.z j hj fun i hi=> hall i (by omega)
theorem Kv.sol (hp:2≤p) (hm:1≤m) {c0:Nat} (hP:PV p m R N a piv c0) (hend:piv.length=R∨c0=N) (hc0:c0≤N) (hc:c < N) (hnp:∀i:Nat,piv[i]?≠some c) (h:Kv p m a piv c piv.length x):Sol p m ml N R a x:=by
 have hq:1 < p ^ m:=one_lt_q hp hm;intro i hi;by_cases hl:i < piv.length
 ·obtain ⟨q,hq'⟩:∃q,piv[i]?=some q:=⟨_,List.getElem?_eq_getElem hl⟩;have hqN:q < N:=by have:=hP.lt i q hq';omega
  have hqc:q≠c:=fun e=> hnp i (by rw [←e];exact hq');have hlen:(il N (a i)).length=N:=il_len _ _;have hg:∀j,j < N→(il N (a i)).getD j 0=a i j:=fun j hj=> by
   rw [List.getD_eq_getElem?_getD,il_get hj];rfl
  have e1:kdot p m ml (il N (a i)) (il N (upd (fun _=> (0:Int)) c 1)) 0=kadd p m (kdot p m ml (il N (a i)) (il N fun _=> (0:Int)) 0) (kmul p m (lw ml) (kin (p ^ m) ((il N (a i)).getD c 0)) (kin (p ^ m) (upd (fun _=> (0:Int)) c 1 c))):=
   dot_at hp hlen hc rfl fun j _ hj _=> upd_ne _ _ hj
  have e2:kdot p m ml (il N (a i)) (il N x) 0=kadd p m (kdot p m ml (il N (a i)) (il N (upd (fun _=> (0:Int)) c 1)) 0) (kmul p m (lw ml) (kin (p ^ m) ((il N (a i)).getD q 0)) (kin (p ^ m) (x q))):=
   dot_at hp hlen hqN (upd_ne _ _ hqc) fun j hj hjq hr=> by
    rw [hg j hj] at hr;by_cases e:j=c
    ·rw [e,h.c1,upd_same]
    ·rw [upd_ne _ _ e];refine h.z j e fun k hk hkp=> ?_;by_cases ek:k=i
     ·subst ek;rw [hq'] at hkp;injection hkp with hkp;exact hjq hkp.symm
     ·exact hr (hP.zer k j i hkp hi (fun e=> ek e.symm))
  have e0:kdot p m ml (il N (a i)) (il N fun _=> (0:Int)) 0=0:=by
   have:=dt_zero (p:=p) (m:=m) (ml:=ml) (N:=N) hp (f:=fun _=> 0) (x:=a i) (fun j _=> rfl);rw [dt_symm] at this;exact this
  show kdot p m ml (il N (a i)) (il N x) 0=0
  rw [e2,e1,e0,hg c hc,hg q hqN,hP.one i q hq',upd_same,h.pv i q hl hq'];have k1:kin (p ^ m) 1=1:=by have:=kin_of (q:=p ^ m) (x:=1) hq;exact this
  rw [k1,zero_kadd (by omega) (kmul_lt (by omega) _ _),kmul_one hp hm (kin_lt (by omega) _),kin_of (kneg_lt (by omega) _),one_kmul hp hm (kneg_lt (by omega) _),kadd_kneg (by omega)]
 ·refine dt_zero hp fun j hj=> ?_;rcases hend with he | he
  ·omega
  ·exact hP.tail i j (by omega) hi (by omega)
end
end Go.Proofs.YtgdmlmhpineibaaGreat
