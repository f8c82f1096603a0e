/- Walks of equivalence.injective, factors, open, Check. -/
import Derived.Test.YtgdmlmhpineibaaGreatZg14
import Derived.Test.YtgdmlmhpineibaaGreatZg16
import Derived.Test.YtgdmlmhpineibaaGreatZg25
namespace Go.Proofs.YtgdmlmhpineibaaGreat
set_option linter.unusedVariables false
set_option linter.unusedSimpArgs false
set_option maxRecDepth 100000
set_option maxHeartbeats 4000000
section
open Go.RowKit
theorem isl_take {w:World} {a:Option Addr} {n cap:Nat} {l:List Int} (h:ISl w (.slice a n cap) l) {i:Nat} (hi:i≤l.length):ISl w (.slice a i cap) (l.take i):=by
 obtain ⟨a',cap',e,h1,h2,h3⟩:=h.open;injection e with e1 e2 e3;subst e1 e3;have hl:(l.take i).length=i:=by rw [List.length_take];omega
 unfold ISl;rw [hl];refine ⟨by rw [ints_length,hl];omega,a,cap,rfl,by omega,h2,fun hn=> ?_⟩;obtain ⟨b,o,rfl,h4⟩:=h3 (by omega);refine ⟨b,o,rfl,fun j u hu=> ?_⟩;simp only [ints,List.getElem?_map,List.getElem?_take] at hu;split at hu
 ·obtain ⟨y,hy,rfl⟩:=Option.map_eq_some_iff.1 hu;exact h4 j y hy
 ·cases hu
def dupK (l:List Int) (k:Nat):Bool:=(List.range k).any fun i=> (l.take i).contains (l.getD i 0)
def dupB (l:List Int):Bool:=dupK l l.length
theorem dupK_succ (l:List Int) (k:Nat):dupK l (k + 1)=(dupK l k || (l.take k).contains (l.getD k 0)):=by
 unfold dupK;rw [List.range_succ,List.any_append];simp
theorem dupK_mono {l:List Int} {k n:Nat} (h:k≤n) (hd:dupK l k=true):dupK l n=true:=by
 unfold dupK at *;obtain ⟨i,hi,hb⟩:=List.any_eq_true.1 hd;exact List.any_eq_true.2 ⟨i,List.mem_range.2 (by have:=List.mem_range.1 hi;omega),hb⟩
def rngB (l:List Int) (n:Int):Bool:=l.all fun x=> decide (0≤x∧x < n)
def injS (l:List Int) (n:Int):Int:=if rngB l n=false then 6 else if dupB l=true then 18 else 0
theorem any_getD (l:List Int) (f:Int→Bool):((List.range l.length).any fun j=> f (l.getD j 0))=l.any f:=by
 rw [Bool.eq_iff_iff,List.any_eq_true,List.any_eq_true];constructor
 ·rintro ⟨j,hj,h⟩;have hj:=List.mem_range.1 hj;refine ⟨l[j],List.getElem_mem hj,?_⟩
  rwa [List.getD_eq_getElem?_getD,List.getElem?_eq_getElem hj] at h
 ·rintro ⟨x,hx,h⟩;obtain ⟨j,hj,rfl⟩:=List.getElem_of_mem hx;exact ⟨j,List.mem_range.2 hj,by rw [List.getD_eq_getElem?_getD,List.getElem?_eq_getElem hj];exact h⟩
theorem ints_at {l:List Int} {i:Nat} {u:Value} (h:(ints l)[i]?=some u):∃x,l[i]?=some x∧u= .int .i64 x∧l.getD i 0=x:=by
 unfold ints at h;rw [List.getElem?_map] at h;obtain ⟨x,hx,rfl⟩:=Option.map_eq_some_iff.1 h;exact ⟨x,hx,rfl,by rw [List.getD_eq_getElem?_getD,hx];rfl⟩
theorem inj1_any (w:World) (B:Nat) (n x:Int) (c0:w.cell? ⟨B,0,none⟩=some (.int .i64 n)):
  Calls Tryz.prog 138 #[.int .i64 x,.pointer (some ⟨B,0,none⟩)] w fun r w'=> r= .returned (.bool (!decide (0≤x∧x < n)))∧Ex w w':=by
 by_cases h0:x < 0
 ·have HR:=hid_ (show true=!decide (0≤x∧x < n) from by simp;omega);have b1:decide (x < 0)=true:=decide_eq_true h0;clear h0;go_enter Tryz.func138,Tryz.ntmps138
  go_wp2_with fail
  go_ret;exact ⟨ret_bool HR.out,Ex.refl _⟩
 ·have b1:decide (x < 0)=false:=decide_eq_false h0;by_cases h1:n≤x
  ·have HR:=hid_ (show true=!decide (0≤x∧x < n) from by simp;omega);have b2:decide (n≤x)=true:=decide_eq_true h1;clear h0 h1;go_enter Tryz.func138,Tryz.ntmps138
   go_wp2_with fail
   go_ret;exact ⟨ret_bool HR.out,Ex.refl _⟩
  ·have HR:=hid_ (show false=!decide (0≤x∧x < n) from by simp;omega);have b2:decide (n≤x)=false:=decide_eq_false h1;clear h0 h1;go_enter Tryz.func138,Tryz.ntmps138
   go_wp2_with fail
   go_ret;exact ⟨ret_bool HR.out,Ex.refl _⟩
theorem injective_any (w:World) (l:List Int) (v:Value) (n:Int) (hl:ISl w v l):
  Calls Tryz.prog 88 #[v,.int .i64 n] w fun r w'=> r= .returned (.int .i64 (injS l n))∧Ex w w':=by
 have ea:Ex w (w.alloc (.cells #[.int .i64 n] 3)):=(Ex.refl _).alloc _;have q0:(w.alloc (.cells #[.int .i64 n] 3)).cell? ⟨w.heap.size,0,none⟩=some (.int .i64 n):=by simp
 have HL:=hid_ (hl.ex ea);have HC:=hid_ (ContainsFunc_inj (w.alloc (.cells #[.int .i64 n] 3)) (.pointer (some ⟨w.heap.size,0,none⟩)) v l.length (ints l) (hl.ex ea) (fun j=> !decide (0≤l.getD j 0∧l.getD j 0 < n)) fun w1 i u hx hu=> by
  obtain ⟨x,_,rfl,hx2⟩:=ints_at hu;rw [hx2];exact inj1_any w1 w.heap.size n x (hx.cell q0))
 have hc:=HC.out;rw [any_getD l fun x=> !decide (0≤x∧x < n)] at hc;have HC:=hid_ hc;obtain ⟨a,cap,rfl,s1,s2,s3⟩:=hl.open;unfold maxLen at s2;have HEA:=hid_ ea;clear hl s3 hc ea;by_cases hr:rngB l n=true
 ·have h1:(l.any fun x=> !decide (0≤x∧x < n))=false:=by
   unfold rngB at hr;rw [List.any_eq_false];intro x hx;have:=List.all_eq_true.1 hr x hx;simpa using this
  rw [h1] at HC;have HIS:=hid_ (show injS l n=if dupB l=true then 18 else 0 from by unfold injS;rw [hr,if_neg (by decide)]);clear hr h1;go_enter Tryz.func88,Tryz.ntmps88
  go_wp2_with fail
  obtain ⟨q,hq⟩:∃q,w.heap.size=q:=⟨_,rfl⟩;rw [hq] at HC q0
  try simp only [hq]
  clear hq;generalize w.alloc (.cells #[.int .i64 n] 3)=w1 at *;refine HC.out.mono ?_;rintro e w2 ⟨rfl,hx2⟩;have HX2:=hid_ hx2;clear hx2;go_wp2_with fail
  go_loopw [12] (fun i' wr=> ∃(i:Nat),i≤l.length∧i'= .int .i64 i∧Hid (dupK l i=false)∧Hid (Ex w2 wr)) (fun i' _=> l.length - (intOf i').toNat)
  case atStart=> exact ⟨0,by omega,rfl,hid_ rfl,hid_ (Ex.refl _)⟩
  case round=>
   obtain ⟨i,hi,rfl,hd,hex⟩:=hrel;have HX2:=hid_ (HX2.out.trans hex.out);by_cases hil:i < l.length
   ·obtain ⟨x,hx⟩:∃x,l[i]?=some x:=⟨_,List.getElem?_eq_getElem hil⟩;have HLW:=hid_ (HL.out.ex HX2.out);obtain ⟨_,_,e1,_,_,h3⟩:=HLW.out.open;injection e1 with e1 e2 e3;subst e1;clear e2 e3;obtain ⟨zb,zo,rfl,hzc⟩:=h3 (by omega);have c1:=hzc i x hx;have hgx:l.getD i 0=x:=by rw [List.getD_eq_getElem?_getD,hx];rfl
    have i1:(0:Int)≤(i:Int):=by omega
    have i2:(i:Int) < (l.length:Int):=by omega
    have i3:i≤cap:=by omega
    have i4:(i:Int)≤(cap:Int):=by omega
    have HCT:=hid_ (Contains_any wr (l.take i) _ x (isl_take HLW.out (by omega)));have HDS:=hid_ (dupK_succ l i);rw [hgx,hd.out,Bool.false_or] at HDS;clear hx h3 hzc hgx hd
    cases hb:(l.take i).contains x with
    | true=>
     rw [hb] at HCT HDS;have HR:=hid_ (show (18:Int)=injS l n from by
      have hd2:dupB l=true:=dupK_mono (show i + 1≤l.length by omega) HDS.out;rw [HIS.out,if_pos hd2])
     clear hb;go_wp2_with (go_at_call 109;refine HCT.out.mono ?_;rintro e w5 ⟨rfl,rfl⟩)
     go_ret;exact ⟨ret_int HR.out,HEA.out.trans HX2.out⟩
    | false=>
     rw [hb] at HCT HDS;clear hb;go_wp2_with (go_at_call 109;refine HCT.out.mono ?_;rintro e w5 ⟨rfl,rfl⟩)
     go_roundw
     case rel=> first | exact ⟨i + 1,by omega,by go_num,HDS,hex⟩ | ((repeat apply Exists.intro);exact ⟨⟨i + 1,by omega,by go_num,HDS,hex⟩,rfl⟩)
     case measure=> simp [intOf];omega
   ·obtain rfl:i=l.length:=by omega
    have HR:=hid_ (show (0:Int)=injS l n from by
     rw [HIS.out,if_neg (by show ¬dupK l l.length=true;rw [hd.out];decide)])
    go_wp2_with fail
    go_ret;exact ⟨ret_int HR.out,HEA.out.trans HX2.out⟩
 ·have hr:rngB l n=false:=by simpa using hr
  have h1:(l.any fun x=> !decide (0≤x∧x < n))=true:=by
   unfold rngB at hr;rw [List.all_eq_false] at hr;obtain ⟨x,hx,h⟩:=hr;exact List.any_eq_true.2 ⟨x,hx,by simp at h ⊢;omega⟩
  rw [h1] at HC;have HR:=hid_ (show (6:Int)=injS l n from by unfold injS;rw [if_pos hr]);clear hr h1;go_enter Tryz.func88,Tryz.ntmps88
  go_wp2_with (go_at_call 47;refine HC.out.mono ?_;rintro e w2 ⟨rfl,hx2⟩;have HX2:=hid_ hx2;clear hx2)
  go_ret;exact ⟨ret_int HR.out,HEA.out.trans HX2.out⟩
def facS (q:Nat) (l:List Int):Int:=if (l.any fun x=> !isB q x)=true then 2 else if l.contains 0=true then 7 else 0
section
variable {b p m x0:Nat} {ml:List Int}
theorem fac1_any (w:World) (B:Nat) (hg:GFat w b p m ml x0) (x:Int) (c0:w.cell? ⟨B,0,none⟩=some (.pointer (some ⟨b,0,none⟩))):
  Calls Tryz.prog 139 #[.int .i64 x,.pointer (some ⟨B,0,none⟩)] w fun r w'=> r= .returned (.bool (!isB (p ^ m) x))∧Ex w w':=by
 have HI:=hid_ (Is_any w hg x);obtain ⟨z,hz⟩:∃z,isB (p ^ m) x=z:=⟨_,rfl⟩;rw [hz] at HI ⊢;clear hg hz;go_enter Tryz.func139,Tryz.ntmps139
 go_wp2_with (go_at_call 49;refine HI.out.mono ?_;rintro e w1 ⟨rfl,n1,rfl⟩)
 go_ret;exact ⟨rfl,(Ex.refl w).drewN _⟩
theorem factors_any (w:World) (hg:GFat w b p m ml x0) (l:List Int) (v:Value) (hl:ISl w v l):
  Calls Tryz.prog 89 #[.pointer (some ⟨b,0,none⟩),v] w fun r w'=> r= .returned (.int .i64 (facS (p ^ m) l))∧Ex w w':=by
 have ea:Ex w (w.alloc (.cells #[.pointer (some ⟨b,0,none⟩)] 79)):=(Ex.refl _).alloc _;have q0:(w.alloc (.cells #[.pointer (some ⟨b,0,none⟩)] 79)).cell? ⟨w.heap.size,0,none⟩=some (.pointer (some ⟨b,0,none⟩)):=by simp
 have hc:=ContainsFunc_fac (w.alloc (.cells #[.pointer (some ⟨b,0,none⟩)] 79)) (.pointer (some ⟨w.heap.size,0,none⟩)) v l.length (ints l) (hl.ex ea) (fun j=> !isB (p ^ m) (l.getD j 0)) fun w1 i u hx hu=> by
  obtain ⟨x,_,rfl,hx2⟩:=ints_at hu;rw [hx2];exact fac1_any w1 w.heap.size (hg.ex (ea.trans hx)) x (hx.cell q0)
 rw [any_getD l fun x=> !isB (p ^ m) x] at hc;have HC:=hid_ hc;have HCT:=hid_ (fun w1 (hx:Ex w w1)=> Contains_any w1 l v 0 (hl.ex hx));obtain ⟨a,cap,rfl,s1,s2,s3⟩:=hl.open;unfold maxLen at s2;have HEA:=hid_ ea;obtain ⟨R,hR⟩:∃R,facS (p ^ m) l=R:=⟨_,rfl⟩;have hR2:=hR;unfold facS at hR2;rw [hR];obtain ⟨y,hy⟩:∃y,(l.any fun x=> !isB (p ^ m) x)=y:=⟨_,rfl⟩;obtain ⟨z,hz⟩:∃z,l.contains 0=z:=⟨_,rfl⟩;rw [hy] at HC hR2;rw [hz] at hR2 HCT;clear hl s3 hc ea hy hz hR hg
 cases y with
 | true=>
  rw [if_pos rfl] at hR2;subst hR2;go_enter Tryz.func89,Tryz.ntmps89
  go_wp2_with (go_at_call 47;refine HC.out.mono ?_;rintro e w2 ⟨rfl,hx2⟩;have HX2:=hid_ hx2;clear hx2)
  go_ret;exact ⟨rfl,HEA.out.trans HX2.out⟩
 | false=>
  rw [if_neg (by decide)] at hR2
  cases z with
  | true=>
   rw [if_pos rfl] at hR2;subst hR2;go_enter Tryz.func89,Tryz.ntmps89
   go_wp2_with (first | (go_at_call 47;refine HC.out.mono ?_;rintro e w2 ⟨rfl,hx2⟩;have HX2:=hid_ (HEA.out.trans hx2);clear hx2) | (go_at_call 109;refine (HCT.out _ HX2.out).mono ?_;rintro e w5 ⟨rfl,rfl⟩))
   go_ret;exact ⟨rfl,HX2.out⟩
  | false=>
   rw [if_neg (by decide)] at hR2;subst hR2;go_enter Tryz.func89,Tryz.ntmps89
   go_wp2_with (first | (go_at_call 47;refine HC.out.mono ?_;rintro e w2 ⟨rfl,hx2⟩;have HX2:=hid_ (HEA.out.trans hx2);clear hx2) | (go_at_call 109;refine (HCT.out _ HX2.out).mono ?_;rintro e w5 ⟨rfl,rfl⟩))
   go_ret;exact ⟨rfl,HX2.out⟩
end
def monS (p m:Int) (ml:List Int) (n:Int) (pl sl:List Int) (fr:Int):Int:=
 if chkS p m ml≠0 then 1 else if n < 1∨64 < n then 4 else if (pl.length:Int)≠n∨(sl.length:Int)≠n then 3 else
 if rngB pl n=false∨fr < 0∨m≤fr then 6 else if dupB pl=true then 18 else facS (p.toNat ^ m.toNat) sl
theorem boxF_facts (w:World) (p m:Int) (v:Value):(w.alloc (.cells #[.int .i64 p,.int .i64 m,v] 24)).cell? ⟨w.heap.size,0,none⟩=some (.int .i64 p)∧(w.alloc (.cells #[.int .i64 p,.int .i64 m,v] 24)).cell? ⟨w.heap.size,1,none⟩=some (.int .i64 m)∧
  (w.alloc (.cells #[.int .i64 p,.int .i64 m,v] 24)).cell? ⟨w.heap.size,2,none⟩=some v∧Ex w (w.alloc (.cells #[.int .i64 p,.int .i64 m,v] 24)):=⟨by simp,by simp,by simp,(Ex.refl _).alloc _⟩
theorem boxMo_facts (w:World) (u v:Value) (fr:Int):(w.alloc (.cells #[u,v,.int .i64 fr] 26)).cell? ⟨w.heap.size,0,none⟩=some u∧(w.alloc (.cells #[u,v,.int .i64 fr] 26)).cell? ⟨w.heap.size,1,none⟩=some v∧
  (w.alloc (.cells #[u,v,.int .i64 fr] 26)).cell? ⟨w.heap.size,2,none⟩=some (.int .i64 fr)∧Ex w (w.alloc (.cells #[u,v,.int .i64 fr] 26)):=⟨by simp,by simp,by simp,(Ex.refl _).alloc _⟩
def OpnR (p m:Int) (ml:List Int) (e:Int) (r:Ending) (w':World):Prop:=
 (e=0∧∃(b pn mn x0:Nat),p=pn∧m=mn∧r= .returned (.tuple #[.pointer (some ⟨b,0,none⟩),.int .i64 0])∧GFat w' b pn mn ml x0∧1≤x0∧x0 < pn ^ mn)∨
 (e≠0∧∃ptr:Option Addr,r= .returned (.tuple #[.pointer ptr,.int .i64 e]))
theorem opn_no {p m:Int} {ml:List Int} {e:Int} (h:e≠0) (ptr:Option Addr) (w':World):OpnR p m ml e (.returned (.tuple #[.pointer ptr,.int .i64 e])) w':= .inr ⟨h,ptr,rfl⟩
end
section
open Go.RowKit
section
variable {p m:Nat} {ml:List Int} {N R:Nat}
def ks (p m:Nat) (g:Nat→Nat):Nat→Nat
 | 0=> 0
 | n + 1=> kadd p m (ks p m g n) (g n)
theorem ks_lt (hp:1≤p) (g:Nat→Nat):∀n,ks p m g n < p ^ m
 | 0=> Nat.pow_pos (by omega)
 | n + 1=> kadd_lt hp _ _
theorem ks_congr {g h:Nat→Nat}:∀n,(∀j,j < n→g j=h j)→ks p m g n=ks p m h n
 | 0,_=> rfl
 | n + 1,e=> by
  show kadd p m _ _=kadd p m _ _
  rw [ks_congr n fun j hj=> e j (by omega),e n (by omega)]
theorem dt_ks (f x:Nat→Int):dt p m ml N f x=ks p m (fun j=> kmul p m (lw ml) (kin (p ^ m) (f j)) (kin (p ^ m) (x j))) N:=by
 have key:∀n,n≤N→dtK p m ml N f x n=ks p m (fun j=> kmul p m (lw ml) (kin (p ^ m) (f j)) (kin (p ^ m) (x j))) n:=fun n=> by
  induction n with
  | zero=> intro _;rw [dtK_zero];rfl
  | succ n ih=>
   intro hn;rw [dtK_succ _ _ (by omega),ih (by omega)];rfl
 rw [←dtK_all,key N (Nat.le_refl _)]
def ksL (p m:Nat) (g:Nat→Nat) (l:List Nat):Nat:=l.foldr (fun j s=> kadd p m s (g j)) 0
theorem ksL_lt (hp:1≤p) (g:Nat→Nat):∀l,ksL p m g l < p ^ m
 | []=> Nat.pow_pos (by omega)
 | j :: l=> kadd_lt hp _ _
theorem ksL_app (hp:1≤p) (g:Nat→Nat):∀l k,ksL p m g (l ++ k)=kadd p m (ksL p m g l) (ksL p m g k)
 | [],k=> by
  show ksL p m g k=kadd p m 0 _
  rw [zero_kadd hp (ksL_lt hp g k)]
 | j :: l,k=> by
  show kadd p m (ksL p m g (l ++ k)) (g j)=kadd p m (kadd p m (ksL p m g l) (g j)) _
  rw [ksL_app hp g l k,kadd_assoc hp,kadd_assoc hp,kadd_comm (ksL p m g k)]
theorem ksL_range (hp:1≤p) {g:Nat→Nat} (hg:∀j,g j < p ^ m):∀n,ksL p m g (List.range n)=ks p m g n
 | 0=> rfl
 | n + 1=> by
  rw [List.range_succ,ksL_app hp,ksL_range hp hg n];show kadd p m _ (kadd p m 0 (g n))=kadd p m _ _
  rw [zero_kadd hp (hg n)]
theorem ksL_perm (hp:1≤p) (g:Nat→Nat) {l k:List Nat} (h:l.Perm k):ksL p m g l=ksL p m g k:=by
 induction h with
 | nil=> rfl
 | @cons x l1 l2 _ ih=> show kadd p m (ksL p m g l1) (g x)=kadd p m (ksL p m g l2) (g x);rw [ih]
 | swap x y l=>
  show kadd p m (kadd p m (ksL p m g l) (g x)) (g y)=kadd p m (kadd p m (ksL p m g l) (g y)) (g x)
  rw [kadd_assoc hp,kadd_assoc hp,kadd_comm (g x)]
 | trans _ _ i1 i2=> rw [i1,i2]
theorem ksL_map (g:Nat→Nat) (f:Nat→Nat):∀l:List Nat,ksL p m g (l.map f)=ksL p m (fun j=> g (f j)) l
 | []=> rfl
 | j :: l=> by show kadd p m (ksL p m g (l.map f)) (g (f j))=kadd p m (ksL p m (fun j=> g (f j)) l) (g (f j));rw [ksL_map g f l]
structure InjN (N:Nat) (π:Nat→Nat):Prop where
 lt:∀i,i < N→π i < N
 inj:∀i j,i < N→j < N→π i=π j→i=j
theorem InjN.perm {π:Nat→Nat} (h:InjN N π):((List.range N).map π).Perm (List.range N):=by
 have hnd:((List.range N).map π).Nodup:=nodup_range_map fun i j hj hij e=> by
  have:=h.inj i j (by omega) hj e;omega
 have hmem:∀x,x < N→x∈(List.range N).map π:=fun x hx=> by
  have:=pigeon N (((List.range N).map π).map (·+ 1)) (by
   rw [List.map_map];exact nodup_range_map fun i j hj hij e=> by
    have e:π i + 1=π j + 1:=e;have:=h.inj i j (by omega) hj (by omega);omega) (by simp) (fun y hy=> by
   obtain ⟨z,hz,rfl⟩:=List.mem_map.1 hy;obtain ⟨i,hi,rfl⟩:=List.mem_map.1 hz;have:=h.lt i (List.mem_range.1 hi);omega) (x + 1) (by omega) (by omega)
  obtain ⟨z,hz,e⟩:=List.mem_map.1 this;have:z=x:=by have e:z + 1=x + 1:=e;omega
  rw [←this];exact hz
 refine (List.perm_ext_iff_of_nodup hnd List.nodup_range).2 fun x=> ⟨fun hx=> ?_,fun hx=> hmem x (List.mem_range.1 hx)⟩;obtain ⟨i,hi,rfl⟩:=List.mem_map.1 hx;exact List.mem_range.2 (h.lt i (List.mem_range.1 hi))
theorem InjN.surj {π:Nat→Nat} (h:InjN N π) {j:Nat} (hj:j < N):∃i,i < N∧π i=j:=by
 have:=h.perm.mem_iff.2 (List.mem_range.2 hj);obtain ⟨i,hi,e⟩:=List.mem_map.1 this;exact ⟨i,List.mem_range.1 hi,e⟩
theorem InjN.sum (hp:1≤p) {π:Nat→Nat} (h:InjN N π) {g:Nat→Nat} (hg:∀j,g j < p ^ m):ks p m (fun i=> g (π i)) N=ks p m g N:=by
 rw [←ksL_range hp hg,←ksL_range hp fun i=> hg (π i),←ksL_map,ksL_perm hp g h.perm]
def plc (π:Nat→Nat) (v:Nat→Int):Nat→Nat→Int
 | 0=> fun _=> 0
 | k + 1=> upd (plc π v k) (π k) (v k)
theorem plc_at {π:Nat→Nat} (h:InjN N π) (v:Nat→Int):∀k,k≤N→∀i,i < k→plc π v k (π i)=v i
 | 0,_,i,hi=> by omega
 | k + 1,hk,i,hi=> by
  show upd (plc π v k) (π k) (v k) (π i)=v i
  by_cases e:i=k
  ·subst e;exact upd_same _ _ _
  ·rw [upd_ne _ _ fun e2=> e (h.inj i k (by omega) (by omega) e2)];exact plc_at h v k (by omega) i (by omega)
theorem dt_plc (hp:1≤p) {π:Nat→Nat} (h:InjN N π) (v x:Nat→Int):dt p m ml N (plc π v N) x=dt p m ml N v (fun i=> x (π i)):=by
 rw [dt_ks,dt_ks,←h.sum hp fun j=> kmul_lt hp _ _];exact ks_congr N fun i hi=> by rw [plc_at h v N (Nat.le_refl _) i hi]
end
end
section
open Go.RowKit
theorem spaceCheck_any (w:World) (p m:Int) (ml:List Int) (mv:Value) (hmv:ISl w mv ml) (cols:Int) (rows:List (List Int)) (v:Value) (hv:MSl w v rows) (h0:canE p m ml cols rows=0→1≤cols):
  Calls Tryz.prog 120 #[.agg #[.int .i64 p,.int .i64 m,mv],.agg #[.int .i64 cols,v]] w fun r w'=> (∃e:Int,r= .returned (.int .i64 e)∧SpcO p m ml cols rows e)∧Ex w w':=by
 obtain ⟨g0,g1,g2,e0,gsz⟩:=box_facts w p m mv;have HOP:=hid_ (fun (w':World) (h:Ex w w')=> spaceOpen_any w' p m ml mv (hmv.ex h) cols rows v (hv.ex h) h0);obtain ⟨za,zc,rfl,-,z2,-⟩:=hv.open;unfold maxLen at z2;obtain ⟨ma,mc,rfl,-,m2,-⟩:=hmv.open;unfold maxLen at m2;clear hmv hv h0;go_enter Tryz.func120,Tryz.ntmps120
 go_wp2_with fail
 refine (HOP.out _ (e0.trans ((Ex.refl _).alloc _))).mono ?_;rintro e w2 ⟨⟨g,c,a1,a2,n1,k1,n2,k2,e',rfl,hs⟩,hx⟩;have HX:=hid_ ((e0.trans ((Ex.refl _).alloc (.cells #[.int .i64 cols,.slice za rows.length zc] 113))).trans hx);clear hx g0 g1 g2 e0 gsz HOP;go_wp2_with fail
 go_ret;exact ⟨⟨e',rfl,hs⟩,HX.out.alloc _⟩
def CodO (p m:Int) (ml:List Int) (n:Int) (rows:List (List Int)) (e:Int):Prop:=
 (chkS p m ml≠0∧e=1)∨(chkS p m ml=0∧lenE n≠0∧e=lenE n)∨(chkS p m ml=0∧lenE n=0∧SpcO p m ml n rows e)
theorem codeCheck_any (w:World) (p m:Int) (ml:List Int) (mv:Value) (hmv:ISl w mv ml) (n:Int) (rows:List (List Int)) (v:Value) (hv:MSl w v rows):
  Calls Tryz.prog 74 #[.agg #[.int .i64 p,.int .i64 m,mv,.int .i64 n,v]] w fun r w'=> (∃e:Int,r= .returned (.int .i64 e)∧CodO p m ml n rows e)∧Ex w w':=by
 obtain ⟨a0,a1,a2,a3,a4,ea⟩:=boxC_facts w p m mv n v;have HFC:=hid_ (fun (w':World) (h:Ex w w')=> FCheck_any w' p m ml mv (hmv.ex h));have HGN:=hid_ (fun (w':World) (h:Ex w w')=> gen_any w' p m mv n rows v (hv.ex h));have HSC:=hid_ (fun (h1:lenE n=0) (w':World) (h:Ex w w')=> spaceCheck_any w' p m ml mv (hmv.ex h) n rows v (hv.ex h) fun _=> by
  unfold lenE at h1;split at h1
  ·cases h1
  ·omega)
 have HLN:=hid_ (fun (w':World)=> length_any w' n);obtain ⟨za,zc,rfl,-,z2,-⟩:=hv.open;unfold maxLen at z2;obtain ⟨ma,mc,rfl,-,m2,-⟩:=hmv.open;unfold maxLen at m2;have HE:=hid_ ea;obtain ⟨F,hF⟩:∃F,chkS p m ml=F:=⟨_,rfl⟩;obtain ⟨L,hL⟩:∃L,lenE n=L:=⟨_,rfl⟩;have HCO:=hid_ (show ∀e,((F≠0∧e=1)∨(F=0∧L≠0∧e=L)∨(F=0∧L=0∧SpcO p m ml n rows e))→CodO p m ml n rows e from fun e h=> by unfold CodO;rw [hF,hL];exact h);rw [hF] at HFC;rw [hL] at HSC HLN;clear hmv hv ea hF hL;go_enter Tryz.func74,Tryz.ntmps74
 go_wp2_with fail
 obtain ⟨xb,hxb⟩:∃xb,w.heap.size=xb:=⟨_,rfl⟩;rw [hxb] at a0 a1 a2 a3 a4
 try simp only [hxb]
 clear hxb;generalize w.alloc (.cells #[.int .i64 p,.int .i64 m,.slice ma ml.length mc,.int .i64 n,.slice za rows.length zc] 47)=w1 at *;refine (HFC.out w1 HE.out).mono ?_;rintro e w2 ⟨rfl,hx2⟩;have A0:=hid_ (hx2.cell a0);have A1:=hid_ (hx2.cell a1);have A2:=hid_ (hx2.cell a2);have A3:=hid_ (hx2.cell a3);have A4:=hid_ (hx2.cell a4);have HX2:=hid_ (HE.out.trans hx2);clear a0 a1 a2 a3 a4 hx2 HFC HE;by_cases h1:F=0
 ·subst h1;have a3:=A3.out;go_wp2_with fail
  refine (HLN.out w2).mono ?_;rintro e w3 ⟨rfl,rfl⟩;by_cases h2:L=0
  ·subst h2;have HSC2:=hid_ (HSC.out rfl);have HCO2:=hid_ (fun e h=> HCO.out e (.inr (.inr ⟨by trivial,by trivial,h⟩)));go_wp2_with fail
   have HALL:=hid_ (fun (w':World) (h':Ex w3 w')=> (⟨h'.cell A0.out,h'.cell A1.out,h'.cell A2.out,h'.cell A3.out,h'.cell A4.out⟩:w'.cell? ⟨xb,0,none⟩=some (.int .i64 p)∧w'.cell? ⟨xb,1,none⟩=some (.int .i64 m)∧w'.cell? ⟨xb,2,none⟩=some (.slice ma ml.length mc)∧w'.cell? ⟨xb,3,none⟩=some (.int .i64 n)∧w'.cell? ⟨xb,4,none⟩=some (.slice za rows.length zc)));have G0:Ex w3 w3.drew:=(Ex.refl w3).drew;clear a3
   go_region_held3 (fun w'=> w'.cell? ⟨xb,0,none⟩=some (.int .i64 p)∧w'.cell? ⟨xb,1,none⟩=some (.int .i64 m)∧w'.cell? ⟨xb,2,none⟩=some (.slice ma ml.length mc)∧w'.cell? ⟨xb,3,none⟩=some (.int .i64 n)∧w'.cell? ⟨xb,4,none⟩=some (.slice za rows.length zc))
    (first | with_reducible exact HALL.out _ X4 | with_reducible exact HALL.out _ X3 | with_reducible exact HALL.out _ G0)
    (first | (go_at_call 80;(with_reducible refine (HGN.out _ (HX2.out.trans G0)).mono ?_);rintro e w5 ⟨rfl,h3⟩;have X3:=G0.trans h3;clear h3) | (go_at_call 120;(with_reducible refine (HSC2.out _ (HX2.out.trans X3)).mono ?_);rintro e w4 ⟨⟨e4,rfl,hs4⟩,h4⟩;have X4:=X3.trans h4;clear h4))
   go_wp2_with fail
   go_ret;exact ⟨⟨_,rfl,HCO2.out _ hs4⟩,HX2.out.trans X4⟩
  ·have hb:(L !=0)=true:=by simpa using h2
   have HCO2:=hid_ (HCO.out L (.inr (.inl ⟨by trivial,h2,rfl⟩)));clear h2 a3;go_wp2_with fail
   go_ret;exact ⟨⟨_,rfl,HCO2.out⟩,HX2.out⟩
 ·have hb:(F !=0)=true:=by simpa using h1
  have HCO2:=hid_ (HCO.out 1 (.inl ⟨h1,rfl⟩));clear h1;go_wp2_with fail
  go_ret;exact ⟨⟨_,rfl,HCO2.out⟩,HX2.out⟩
end
end Go.Proofs.YtgdmlmhpineibaaGreat
