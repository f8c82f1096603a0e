/- Plain: the canonical rows are determined by the words that are orthogonal to them; the space that rows generate. -/
import Derived.Test.YtgdmlmhpineibaaGreatZg12
import Derived.Test.YtgdmlmhpineibaaGreatZg15
namespace Go.Proofs.YtgdmlmhpineibaaGreat
set_option linter.unusedVariables false
set_option linter.unusedSimpArgs false
set_option maxRecDepth 100000
set_option maxHeartbeats 4000000
section
open Go.RowKit
theorem kneg_zero {p m:Nat} (hp:1≤p):kneg p m 0=0:=by
 have h:=kadd_kneg (p:=p) (m:=m) hp 0
 rwa [zero_kadd hp (kneg_lt hp 0)] at h
theorem kadd_eq_zero {p m a b:Nat} (hp:1≤p) (ha:a < p ^ m) (hb:b < p ^ m) (h:kadd p m a (kneg p m b)=0):a=b:=by
 have h1:kadd p m (kadd p m a (kneg p m b)) b=a:=by
  rw [kadd_assoc hp,kadd_comm (kneg p m b),kadd_kneg hp,kadd_zero hp ha]
 rw [h,zero_kadd hp hb] at h1;exact h1.symm
theorem kin_inj {q:Nat} {x y:Int} (hx:0≤x∧x < q) (hy:0≤y∧y < q) (h:kin q x=kin q y):x=y:=by
 have h1:=kin_code hx.1 hx.2;have h2:=kin_code hy.1 hy.2;rw [h] at h1;omega
theorem kin_one {p m:Nat} (hp:2≤p) (hm:1≤m):kin (p ^ m) 1=1:=kin_of (q:=p ^ m) (x:=1) (one_lt_q hp hm)
theorem asc_ext:∀ {l k:List Nat},l.Pairwise (·< ·)→k.Pairwise (·< ·)→(∀x,x∈l↔x∈k)→l=k
 | [], [],_,_,_=> rfl
 | [],y :: k,_,_,h=> by have:=(h y).2 (List.mem_cons_self ..);cases this
 | x :: l, [],_,_,h=> by have:=(h x).1 (List.mem_cons_self ..);cases this
 | x :: l,y :: k,hl,hk,h=> by
  obtain ⟨l1,l2⟩:=List.pairwise_cons.1 hl;obtain ⟨k1,k2⟩:=List.pairwise_cons.1 hk;have e:x=y:=by
   rcases List.mem_cons.1 ((h x).1 (List.mem_cons_self ..)) with e | e
   ·exact e
   ·rcases List.mem_cons.1 ((h y).2 (List.mem_cons_self ..)) with e2 | e2
    ·exact e2.symm
    ·have h1:=k1 x e;have h2:=l1 y e2;omega
  subst e;rw [asc_ext l2 k2 fun z=> ?_];constructor
  ·intro hz;rcases List.mem_cons.1 ((h z).1 (List.mem_cons_of_mem _ hz)) with e | e
   ·have:=l1 z hz;omega
   ·exact e
  ·intro hz;rcases List.mem_cons.1 ((h z).2 (List.mem_cons_of_mem _ hz)) with e | e
   ·have:=k1 z hz;omega
   ·exact e
section
variable {p m:Nat} {ml:List Int} {N R:Nat} {a:Nat→Nat→Int} {piv:List Nat} {c0 c:Nat} {x:Nat→Int}
theorem Kv.ex (hP:PV p m R N a piv c0) (hnp:∀i:Nat,piv[i]?≠some c):∀k,k≤piv.length→∃x,Kv p m a piv c k x
 | 0,_=> ⟨_,Kv.zero⟩
 | k + 1,hk=> by
  obtain ⟨x,hx⟩:=Kv.ex hP hnp k (by omega);have hq:piv[k]?=some (piv[k]'(by omega)):=List.getElem?_eq_getElem _;exact ⟨_,hx.succ hP hq fun e=> hnp k (by rw [hq,e])⟩
theorem dt_single (hp:2≤p) {f:Nat→Int} {k:Nat} (hk:k < N) (h:∀j,j < N→j≠k→f j≠0→x j=0):dt p m ml N f x=kmul p m (lw ml) (kin (p ^ m) (f k)) (kin (p ^ m) (x k)):=by
 have hlen:(il N f).length=N:=il_len _ _;have hg:∀j,j < N→(il N f).getD j 0=f j:=fun j hj=> by
  rw [List.getD_eq_getElem?_getD,il_get hj];rfl
 have e1:kdot p m ml (il N f) (il N x) 0=kadd p m (kdot p m ml (il N f) (il N fun _=> (0:Int)) 0) (kmul p m (lw ml) (kin (p ^ m) ((il N f).getD k 0)) (kin (p ^ m) (x k))):=
  dot_at hp hlen hk rfl fun j hj hjk hr=> h j hj hjk (by rwa [hg j hj] at hr)
 have e0:kdot p m ml (il N f) (il N fun _=> (0:Int)) 0=0:=by
  have:=dt_zero (p:=p) (m:=m) (ml:=ml) (N:=N) hp (f:=fun _=> 0) (x:=f) (fun j _=> rfl);rw [dt_symm] at this;exact this
 show kdot p m ml (il N f) (il N x) 0=_
 rw [e1,e0,hg k hk,zero_kadd (by omega) (kmul_lt (by omega) _ _)]
theorem Kv.dt_piv (hp:2≤p) (hm:1≤m) (hc:c < N) (h:Kv p m a piv c piv.length x) {f:Nat→Int} {i q:Nat} (hq:piv[i]?=some q) (hqN:q < N) (hqc:q≠c) (hfq:f q=1) (hz:∀k r:Nat,piv[k]?=some r→k≠i→f r=0):
  dt p m ml N f x=kadd p m (kin (p ^ m) (f c)) (kneg p m (kin (p ^ m) (a i c))):=by
 have hlen:(il N f).length=N:=il_len _ _;have hq0:0 < p ^ m:=Nat.pow_pos (by omega);have hg:∀j,j < N→(il N f).getD j 0=f j:=fun j hj=> by
  rw [List.getD_eq_getElem?_getD,il_get hj];rfl
 have hil:i < piv.length:=(List.getElem?_eq_some_iff.1 hq).1;have e1:dt p m ml N f (upd (fun _=> (0:Int)) c 1)=kin (p ^ m) (f c):=by
  rw [dt_single hp hc fun j hj hjc _=> (show upd (fun _=> (0:Int)) c 1 j=0 from upd_ne _ _ hjc),upd_same,kin_one hp hm,kmul_one hp hm (kin_lt hq0 _)]
 have e2:kdot p m ml (il N f) (il N x) 0=kadd p m (kdot p m ml (il N f) (il N (upd (fun _=> (0:Int)) c 1)) 0) (kmul p m (lw ml) (kin (p ^ m) ((il N f).getD q 0)) (kin (p ^ m) (x q))):=
  dot_at hp hlen hqN (upd_ne _ _ hqc) fun j hj hjq hr=> by
   rw [hg j hj] at hr;by_cases e:j=c
   ·rw [e,h.c1,upd_same]
   ·rw [upd_ne _ _ e];refine h.z j e fun k hk hkp=> ?_;by_cases ek:k=i
    ·subst ek;rw [hq] at hkp;injection hkp with hkp;exact hjq hkp.symm
    ·exact hr (hz k j hkp ek)
 show kdot p m ml (il N f) (il N x) 0=_
 rw [e2];show kadd p m (dt p m ml N f (upd (fun _=> (0:Int)) c 1)) _=_
 rw [e1,hg q hqN,hfq,h.pv i q hil hq,kin_one hp hm,kin_of (kneg_lt (by omega) _),one_kmul hp hm (kneg_lt (by omega) _)]
def RR (p m N R:Nat) (a:Nat→Nat→Int) (piv:List Nat):Prop:=∃c,c≤N∧PV p m R N a piv c∧(piv.length=R∨c=N)
theorem RR.sol (hp:2≤p) (hm:1≤m) (h:RR p m N R a piv) (hc:c < N) (hnp:∀i:Nat,piv[i]?≠some c) (hx:Kv p m a piv c piv.length x):Sol p m ml N R a x:=by
 obtain ⟨c1,h1,h2,h3⟩:=h;exact hx.sol hp hm h2 h3 h1 hc hnp
theorem RR.piv_iff (hp:2≤p) (hm:1≤m) (h:RR p m N R a piv) (hc:c < N):c∈piv↔¬∃x,Sol p m ml N R a x∧kin (p ^ m) (x c)≠0∧∀j,c < j→x j=0:=by
 have h0:=h;obtain ⟨c1,h1,hP,h3⟩:=h;constructor
 ·rintro hm1 ⟨x,hS,hx,hz⟩;obtain ⟨i,hi,e⟩:=List.getElem_of_mem hm1;have hq:piv[i]?=some c:=by rw [List.getElem?_eq_getElem hi,e]
  have:=hS i (by have:=hP.le;omega);rw [dt_single hp hc fun j hj hjc hf=> by
   rcases Nat.lt_or_gt_of_ne hjc with e1 | e1
   ·exact absurd (hP.lead i c j hq e1) hf
   ·exact hz j e1,hP.one i c hq,kin_one hp hm,one_kmul hp hm (kin_lt (Nat.pow_pos (by omega)) _)] at this
  exact hx this
 ·intro hn;by_cases hm1:c∈piv
  ·exact hm1
  ·exfalso;have hnp:∀i:Nat,piv[i]?≠some c:=fun i hi=> hm1 (List.mem_of_getElem? hi);obtain ⟨x,hx⟩:=Kv.ex hP hnp piv.length (Nat.le_refl _);refine hn ⟨x,h0.sol hp hm hc hnp hx,by rw [hx.c1,kin_one hp hm];decide,fun j hj=> ?_⟩;by_cases hj2:∃i,i < piv.length∧piv[i]?=some j
   ·obtain ⟨i,hi,hij⟩:=hj2;rw [hx.pv i j hi hij,hP.lead i j c hij hj,kin_zero,kneg_zero (by omega)];rfl
   ·exact hx.z j (by omega) fun i hi hij=> hj2 ⟨i,hi,hij⟩
theorem RR.asc (h:RR p m N R a piv):piv.Pairwise (·< ·)∧∀q∈piv,q < N:=by
 obtain ⟨c1,h1,hP,h3⟩:=h;refine ⟨List.pairwise_iff_getElem.2 fun i j hi hj hij=> hP.asc i j _ _ hij (List.getElem?_eq_getElem hi) (List.getElem?_eq_getElem hj),fun q hq=> ?_⟩;obtain ⟨i,hi,e⟩:=List.getElem_of_mem hq;have:=hP.lt i q (by rw [List.getElem?_eq_getElem hi,e]);omega
theorem rr_uniq (hp:2≤p) (hm:1≤m) {R':Nat} {a':Nat→Nat→Int} {piv':List Nat} (h:RR p m N R a piv) (h':RR p m N R' a' piv') (hS:∀x,Sol p m ml N R a x↔Sol p m ml N R' a' x):
  piv=piv'∧∀i,i < piv.length→∀j,j < N→a i j=a' i j:=by
 have hpe:piv=piv':=asc_ext h.asc.1 h'.asc.1 fun q=> by
  constructor
  ·intro hq;have hqN:=h.asc.2 q hq;refine (h'.piv_iff (ml:=ml) hp hm hqN).2 ?_;rintro ⟨x,h1,h2⟩;exact (h.piv_iff (ml:=ml) hp hm hqN).1 hq ⟨x,(hS x).2 h1,h2⟩
  ·intro hq;have hqN:=h'.asc.2 q hq;refine (h.piv_iff (ml:=ml) hp hm hqN).2 ?_;rintro ⟨x,h1,h2⟩;exact (h'.piv_iff (ml:=ml) hp hm hqN).1 hq ⟨x,(hS x).1 h1,h2⟩
 subst hpe;refine ⟨rfl,fun i hi j hj=> ?_⟩;have hq:piv[i]?=some piv[i]:=List.getElem?_eq_getElem hi;obtain ⟨q,hqe⟩:∃q,piv[i]=q:=⟨_,rfl⟩;rw [hqe] at hq;have hqN:=h.asc.2 q (List.mem_of_getElem? hq);have h0':=h';obtain ⟨c1,h1,hP,h3⟩:=h;obtain ⟨c1',h1',hP',h3'⟩:=h';by_cases hjp:∃k:Nat,piv[k]?=some j
 ·obtain ⟨k,hk⟩:=hjp;by_cases e:k=i
  ·subst e;rw [hP.one k j hk,hP'.one k j hk]
  ·rw [hP.zer k j i hk (by have:=hP.le;omega) (fun e2=> e e2.symm),hP'.zer k j i hk (by have:=hP'.le;omega) (fun e2=> e e2.symm)]
 ·have hnp:∀k:Nat,piv[k]?≠some j:=fun k hk=> hjp ⟨k,hk⟩;obtain ⟨x,hx⟩:=Kv.ex hP' hnp piv.length (Nat.le_refl _);have hs:=(hS x).2 (h0'.sol hp hm hj hnp hx) i (by have:=hP.le;omega);rw [hx.dt_piv hp hm hj hq hqN (fun e=> hnp i (by rw [←e];exact hq)) (hP.one i q hq) fun k r hk hki=> hP.zer k r i hk (by have:=hP.le;omega) (fun e=> hki e.symm)] at hs;have hq0:0 < p ^ m:=Nat.pow_pos (by omega);exact kin_inj (hP.rng i (by have:=hP.le;omega) j hj) (hP'.rng i (by have:=hP'.le;omega) j hj) (kadd_eq_zero (by omega) (kin_lt hq0 _) (kin_lt hq0 _) hs)
def Cl (p m:Nat) (ml:List Int) (N R:Nat) (a:Nat→Nat→Int) (v:Nat→Int):Prop:=∀x,Sol p m ml N R a x→dt p m ml N v x=0
theorem Cl.congr {v v':Nat→Int} (h:∀j,j < N→v j=v' j):Cl p m ml N R a v↔Cl p m ml N R a v':=by
 unfold Cl;constructor
 ·intro k x hx;rw [←dt_congr h fun _ _=> rfl];exact k x hx
 ·intro k x hx;rw [dt_congr h fun _ _=> rfl];exact k x hx
structure Ech (N:Nat) (a:Nat→Nat→Int) (pl:Nat→Nat) (n:Nat):Prop where
 lt:∀i,i < n→pl i < N
 one:∀i,i < n→a i (pl i)=1
 zer:∀i j,j < i→i < n→a i (pl j)=0
theorem Ech.mono {pl:Nat→Nat} {n k:Nat} (h:Ech N a pl n) (hk:k≤n):Ech N a pl k:=⟨fun i hi=> h.lt i (by omega),fun i hi=> h.one i (by omega),fun i j hj hi=> h.zer i j hj (by omega)⟩
theorem Ech.solve (hp:2≤p) (hm:1≤m) {pl:Nat→Nat}:∀n,Ech N a pl n→∀y:Nat→Int,∃x,(∀j,(∀i,i < n→pl i≠j)→x j=y j)∧Sol p m ml N n a x
 | 0,_,y=> ⟨y,fun _ _=> rfl,fun i hi=> by omega⟩
 | n + 1,h,y=> by
  have hq0:0 < p ^ m:=Nat.pow_pos (by omega);obtain ⟨s,hs⟩:∃s,dt p m ml N (a n) (upd y (pl n) 0)=s:=⟨_,rfl⟩;have hsl:s < p ^ m:=by rw [←hs];exact dt_lt hp _ _
  obtain ⟨x,hx1,hx2⟩:=Ech.solve hp hm n (h.mono (by omega)) (upd y (pl n) ((kneg p m s:Nat):Int));refine ⟨x,fun j hj=> ?_,fun i hi=> ?_⟩
  ·rw [hx1 j fun i hi=> hj i (by omega),upd_ne _ _ (fun e=> hj n (by omega) e.symm)]
  ·by_cases e:i=n
   ·subst e;have hlen:(il N (a i)).length=N:=il_len _ _;have hg:∀j,j < N→(il N (a i)).getD j 0=a i j:=fun j hj=> by
     rw [List.getD_eq_getElem?_getD,il_get hj];rfl
    have hpn:=h.lt i (by omega);have e1:kdot p m ml (il N (a i)) (il N x) 0=kadd p m (kdot p m ml (il N (a i)) (il N (upd y (pl i) 0)) 0) (kmul p m (lw ml) (kin (p ^ m) ((il N (a i)).getD (pl i) 0)) (kin (p ^ m) (x (pl i)))):=
     dot_at hp hlen hpn (upd_same _ _ _) fun j hj hji hr=> by
      rw [hg j hj] at hr;rw [hx1 j fun k hk e=> hr (by rw [←e];exact h.zer i k hk (by omega)),upd_ne _ _ hji,upd_ne _ _ hji]
    have e3:x (pl i)=((kneg p m s:Nat):Int):=by
     rw [hx1 (pl i) fun k hk e=> by
      have h1:=h.zer i k hk (by omega);rw [e,h.one i (by omega)] at h1;exact absurd h1 (by decide),upd_same]
    show kdot p m ml (il N (a i)) (il N x) 0=0
    rw [e1,hg _ hpn,h.one i (by omega),e3,kin_one hp hm,kin_of (kneg_lt (by omega) _),one_kmul hp hm (kneg_lt (by omega) _)];show kadd p m (dt p m ml N (a i) (upd y (pl i) 0)) _=0
    rw [hs,kadd_kneg (by omega)]
   ·exact hx2 i (by omega)
theorem Ech.zero (hp:2≤p) (hm:1≤m) {pl:Nat→Nat} {n:Nat} (h:Ech N a pl n) {r:Nat→Int} (hz:∀i,i < n→r (pl i)=0) (hc:Cl p m ml N n a r) {k:Nat} (hk:k < N):kin (p ^ m) (r k)=0:=by
 by_cases hkp:∃i,i < n∧pl i=k
 ·obtain ⟨i,hi,rfl⟩:=hkp;rw [hz i hi,kin_zero]
 ·obtain ⟨x,h1,h2⟩:=Ech.solve (ml:=ml) hp hm n h (upd (fun _=> 0) k 1);have h3:=hc x h2;rw [dt_single hp hk fun j hj hjk hr=> by
   rw [h1 j fun i hi e=> hr (by rw [←e];exact hz i hi),upd_ne _ _ hjk],h1 k fun i hi e=> hkp ⟨i,hi,e⟩,upd_same,kin_one hp hm,kmul_one hp hm (kin_lt (Nat.pow_pos (by omega)) _)] at h3
  exact h3
theorem RR.ech (h:RR p m N R a piv):Ech N a (fun i=> piv.getD i 0) piv.length:=by
 have h0:=h;obtain ⟨c1,h1,hP,h3⟩:=h;have hg:∀i,i < piv.length→piv[i]?=some (piv.getD i 0):=fun i hi=> by
  rw [List.getD_eq_getElem?_getD,List.getElem?_eq_getElem hi];rfl
 exact ⟨fun i hi=> h0.asc.2 _ (List.mem_of_getElem? (hg i hi)),fun i hi=> hP.one i _ (hg i hi),fun i j hj hi=> hP.zer j _ i (hg j (by omega)) (by have:=hP.le;omega) (by omega)⟩
end
end
section
open Go.RowKit
theorem eadd_any {p m:Nat} {ml:List Int} {b x0:Nat} (w0 w:World) (hg:GFat w0 b p m ml x0) (hx0:Ex w0 w) {base g R N:Nat} {blk cap:Nat→Nat} {a:Nat→Nat→Int} {avs:List Nat} (h:EM w base g R N blk cap a avs) (hb:w0.heap.size≤base) (hN:N≤1000) (Bg Bi Bx Ba:Nat) (s i:Nat) (x:Int) (hs:s < R) (hi:i < R) (hsi:i≠s) (hBg:Bg∈avs) (hBi:Bi∈avs) (hBx:Bx∈avs) (hBa:Ba∈avs)
  (cg:w.cell? ⟨Bg,0,none⟩=some (.pointer (some ⟨b,0,none⟩))) (ci:w.cell? ⟨Bi,0,none⟩=some (.int .i64 i)) (cx:w.cell? ⟨Bx,0,none⟩=some (.int .i64 x)) (ca:w.cell? ⟨Ba,0,none⟩=some (.int .i64 s)):
  Calls Tryz.prog 181 #[.slice (some ⟨g,0,none⟩) R R,.pointer (some ⟨Bg,0,none⟩),.pointer (some ⟨Bi,0,none⟩),.pointer (some ⟨Bx,0,none⟩),.pointer (some ⟨Ba,0,none⟩)] w (Stp w base g R N (upd a i (addF p m ml (a i) (kneg p m (kin (p ^ m) x)) (a s))) avs):=by
 have p2:=hg.sh.p2;have c1:=h.cell hs;have c2:=h.cell hi;have i1:(0:Int)≤(s:Int):=by omega
 have i2:(s:Int) < (R:Int):=by omega
 have i3:(0:Int)≤(i:Int):=by omega
 have i4:(i:Int) < (R:Int):=by omega
 have HB:=hid_ h;have HX0:=hid_ hx0;have HBB:=hid_ hb;have HR:=hid_ (show s < R∧i < R∧i≠s from ⟨hs,hi,hsi⟩);obtain ⟨K1,hK1⟩:∃K,kneg p m (kin (p ^ m) x)=K:=⟨_,rfl⟩;have HNEG:=hid_ (fun w' (h:Ex w0 w')=> Neg_any w' (hg.ex h) x);have hK1l:K1 < p ^ m:=by rw [←hK1];exact kneg_lt (by omega) _
 rw [hK1] at HNEG ⊢;have HADD:=hid_ (show ∀n,Calls Tryz.prog 160 #[.pointer (some ⟨b,0,none⟩),.slice (some ⟨blk i,0,none⟩) N (cap i),.int .i64 (K1:Nat),.slice (some ⟨blk s,0,none⟩) N (cap s)] (w.drewN n) fun r w'=> (∃t,r= .returned t)∧OwnC w' base 3 (blk i) N (cap i) (iv (addF p m ml (a i) K1 (a s)))∧(w.drewN n).grownBy w' (some (blk i)) from fun n=> by
  have:=madd_any w0 (w.drewN n) hg (hx0.drewN n) N (blk i) (cap i) base (a i) (a s) (K1:Nat) (.slice (some ⟨blk s,0,none⟩) N (cap s)) hb ((h.row i hi).drewN n) (((h.row s hs).drewN n).isl) (by show some (blk s)≠some (blk i);intro e;injection e with e;exact h.apart s i hs hi (fun e=> hsi e.symm) e) hN;rw [kin_of hK1l] at this;exact this)
 have HCG:=hid_ cg;have HCI:=hid_ ci;have HCX:=hid_ cx;have HCA:=hid_ ca;have HC1:=hid_ c1;have HC2:=hid_ c2;have HNE:=hid_ (show (∀B∈avs,some B≠some (blk i))∧some g≠some (blk i) from ⟨fun B hB e=> by injection e with e;exact (h.av B hB).2.2 i hi e.symm,fun e=> by injection e with e;exact h.off i hi e.symm⟩);clear h hs hi hsi hg hx0 hb hK1 hK1l p2;go_enter Tryz.func181,Tryz.ntmps181
 go_wp2_with fail
 have E0:Ex w w.drew:=(Ex.refl w).drew;have G0:Ex w0 w.drew:=HX0.out.trans E0
 go_region_held3 (fun w'=> w'.cell? ⟨Bg,0,none⟩=some (.pointer (some ⟨b,0,none⟩))∧w'.cell? ⟨Bi,0,none⟩=some (.int .i64 i)∧w'.cell? ⟨Bx,0,none⟩=some (.int .i64 x)∧w'.cell? ⟨Ba,0,none⟩=some (.int .i64 s)∧w'.cell? ⟨g,i,none⟩=some (.slice (some ⟨blk i,0,none⟩) N (cap i))∧w'.cell? ⟨g,s,none⟩=some (.slice (some ⟨blk s,0,none⟩) N (cap s)))
  (first | with_reducible exact ⟨E0.cell HCG.out,E0.cell HCI.out,E0.cell HCX.out,E0.cell HCA.out,E0.cell HC2.out,E0.cell HC1.out⟩ | with_reducible exact ⟨((Ex.refl w).drewN _).cell HCG.out,((Ex.refl w).drewN _).cell HCI.out,((Ex.refl w).drewN _).cell HCX.out,((Ex.refl w).drewN _).cell HCA.out,((Ex.refl w).drewN _).cell HC2.out,((Ex.refl w).drewN _).cell HC1.out⟩ | with_reducible exact ⟨hgr.cell (((Ex.refl w).drewN _).cell HCG.out) (HNE.out.1 _ hBg),hgr.cell (((Ex.refl w).drewN _).cell HCI.out) (HNE.out.1 _ hBi),hgr.cell (((Ex.refl w).drewN _).cell HCX.out) (HNE.out.1 _ hBx),hgr.cell (((Ex.refl w).drewN _).cell HCA.out) (HNE.out.1 _ hBa),hgr.cell (((Ex.refl w).drewN _).cell HC2.out) HNE.out.2,hgr.cell (((Ex.refl w).drewN _).cell HC1.out) HNE.out.2⟩)
  ((first
      | (go_at_call 126;(with_reducible refine (HNEG.out _ G0).mono ?_);rintro e wx1 ⟨rfl,n1,rfl⟩)
      | (go_at_call 160;(with_reducible refine (HADD.out _).mono ?_);rintro e wx2 ⟨⟨t,rfl⟩,hown,hgr⟩)))
 have HBN:=hid_ (fun n=> HB.out.ex ((Ex.refl w).drewN n));have HRES:=hid_ ((HBN.out _).rowAt HR.out.2.1 hown hgr);have HKP:=hid_ ((HB.out.kpx ((Ex.refl w).drewN _)).trans HRES.out.2);have HX2:=hid_ (show ∀w00,Ex w00 w→w00.heap.size≤base→Ex w00 wx2 from fun w00 hx hb=> Ex.grown (hx.drewN _) ((HBN.out _).row i HR.out.2.1) hb hgr);have HEM:=hid_ HRES.out.1;clear hown hgr E0 G0 HRES HADD HNEG;go_wp2_with fail
 go_end0
 exact ⟨⟨_,rfl⟩,⟨_,_,HEM.out⟩,HKP.out,HX2.out⟩
theorem each_swp (w:World) {base g R N:Nat} {blk cap:Nat→Nat} {a:Nat→Nat→Int} {avs:List Nat} (h:EM w base g R N blk cap a avs) (Br Bs Bk Ba:Nat) (s k:Nat) (hs:s < R) (hk:k < R) (hsk:s≠k) (hBs:Bs∈avs) (hBk:Bk∈avs) (hBa:Ba∈avs)
  (cr:w.cell? ⟨Br,0,none⟩=some (.slice (some ⟨g,0,none⟩) R R)) (cs:w.cell? ⟨Bs,0,none⟩=some (.slice none 0 0)) (ck:w.cell? ⟨Bk,0,none⟩=some (.int .i64 k)) (ca:w.cell? ⟨Ba,0,none⟩=some (.int .i64 s)):
  Calls Tryz.prog 178 #[.func (.func 179) #[] #[.pointer (some ⟨Bk,0,none⟩),.pointer (some ⟨Ba,0,none⟩)],.pointer (some ⟨Br,0,none⟩),.pointer (some ⟨Bs,0,none⟩)] w (Stp w base g R N (swpA a s k) avs):=by
 have HC:=hid_ (eswp_any w h Bk Ba s k hs hk hsk hBk hBa ck ca);have HBS:=hid_ hBs;have HCS:=hid_ cs;clear h hs hk hsk hBs hBk hBa ck ca cs;go_enter Tryz.func178,Tryz.ntmps178
 go_wp2_with (go_at_call 179;refine HC.out.mono ?_;rintro e w2 ⟨⟨t,rfl⟩,hst,hkp,hex⟩;have hcs:=hkp.cell HBS.out HCS.out)
 go_end0
 exact ⟨⟨_,rfl⟩,hst,hkp,hex⟩
theorem each_scl {p m:Nat} {ml:List Int} {b x0:Nat} (w0 w:World) (hg:GFat w0 b p m ml x0) (hx0:Ex w0 w) {base g R N:Nat} {blk cap:Nat→Nat} {a:Nat→Nat→Int} {avs:List Nat} (h:EM w base g R N blk cap a avs) (hb:w0.heap.size≤base) (hN:N≤1000) (Br Bs Bg Bi Ba:Nat) (s:Nat) (inv:Int) (hs:s < R) (hBs:Bs∈avs) (hBg:Bg∈avs) (hBi:Bi∈avs) (hBa:Ba∈avs)
  (cr:w.cell? ⟨Br,0,none⟩=some (.slice (some ⟨g,0,none⟩) R R)) (cs:w.cell? ⟨Bs,0,none⟩=some (.slice none 0 0)) (cg:w.cell? ⟨Bg,0,none⟩=some (.pointer (some ⟨b,0,none⟩))) (ci:w.cell? ⟨Bi,0,none⟩=some (.int .i64 inv)) (ca:w.cell? ⟨Ba,0,none⟩=some (.int .i64 s)):
  Calls Tryz.prog 178 #[.func (.func 180) #[] #[.pointer (some ⟨Bg,0,none⟩),.pointer (some ⟨Bi,0,none⟩),.pointer (some ⟨Ba,0,none⟩)],.pointer (some ⟨Br,0,none⟩),.pointer (some ⟨Bs,0,none⟩)] w (Stp w base g R N (upd a s (sclF p m ml (kin (p ^ m) inv) (a s))) avs):=by
 have HC:=hid_ (escl_any w0 w hg hx0 h hb hN Bg Bi Ba s inv hs hBg hBi hBa cg ci ca);have HBS:=hid_ hBs;have HCS:=hid_ cs;clear h hs hBs hBg hBi hBa cg ci ca cs hg hx0 hb;go_enter Tryz.func178,Tryz.ntmps178
 go_wp2_with (go_at_call 180;refine HC.out.mono ?_;rintro e w2 ⟨⟨t,rfl⟩,hst,hkp,hex⟩;have hcs:=hkp.cell HBS.out HCS.out)
 go_end0
 exact ⟨⟨_,rfl⟩,hst,hkp,hex⟩
theorem each_add {p m:Nat} {ml:List Int} {b x0:Nat} (w0 w:World) (hg:GFat w0 b p m ml x0) (hx0:Ex w0 w) {base g R N:Nat} {blk cap:Nat→Nat} {a:Nat→Nat→Int} {avs:List Nat} (h:EM w base g R N blk cap a avs) (hb:w0.heap.size≤base) (hN:N≤1000) (Br Bs Bg Bi Bx Ba:Nat) (s i:Nat) (x:Int) (hs:s < R) (hi:i < R) (hsi:i≠s) (hBs:Bs∈avs) (hBg:Bg∈avs) (hBi:Bi∈avs) (hBx:Bx∈avs) (hBa:Ba∈avs)
  (cr:w.cell? ⟨Br,0,none⟩=some (.slice (some ⟨g,0,none⟩) R R)) (cs:w.cell? ⟨Bs,0,none⟩=some (.slice none 0 0)) (cg:w.cell? ⟨Bg,0,none⟩=some (.pointer (some ⟨b,0,none⟩))) (ci:w.cell? ⟨Bi,0,none⟩=some (.int .i64 i)) (cx:w.cell? ⟨Bx,0,none⟩=some (.int .i64 x)) (ca:w.cell? ⟨Ba,0,none⟩=some (.int .i64 s)):
  Calls Tryz.prog 178 #[.func (.func 181) #[] #[.pointer (some ⟨Bg,0,none⟩),.pointer (some ⟨Bi,0,none⟩),.pointer (some ⟨Bx,0,none⟩),.pointer (some ⟨Ba,0,none⟩)],.pointer (some ⟨Br,0,none⟩),.pointer (some ⟨Bs,0,none⟩)] w (Stp w base g R N (upd a i (addF p m ml (a i) (kneg p m (kin (p ^ m) x)) (a s))) avs):=by
 have HC:=hid_ (eadd_any w0 w hg hx0 h hb hN Bg Bi Bx Ba s i x hs hi hsi hBg hBi hBx hBa cg ci cx ca);have HBS:=hid_ hBs;have HCS:=hid_ cs;clear h hs hi hsi hBs hBg hBi hBx hBa cg ci cx ca cs hg hx0 hb;go_enter Tryz.func178,Tryz.ntmps178
 go_wp2_with (go_at_call 181;refine HC.out.mono ?_;rintro e w2 ⟨⟨t,rfl⟩,hst,hkp,hex⟩;have hcs:=hkp.cell HBS.out HCS.out)
 go_end0
 exact ⟨⟨_,rfl⟩,hst,hkp,hex⟩
end
end Go.Proofs.YtgdmlmhpineibaaGreat
