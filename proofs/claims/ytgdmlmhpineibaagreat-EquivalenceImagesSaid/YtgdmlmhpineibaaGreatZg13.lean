/- Lists of rows of the call's own; slices.Index, Contains and Clone at ints; the reference's SameInts, SameRows. -/
import Derived.StillTailTactics
import Derived.Deep.CutRange
import Derived.Deep.LoopGhost
import Derived.Deep.RegionLaw
import Derived.Deep.RegionHeld3
import Derived.Test.YtgdmlmhpineibaaGreatZg11
namespace Go.Proofs.YtgdmlmhpineibaaGreat
set_option linter.unusedVariables false
set_option linter.unusedSimpArgs false
set_option maxRecDepth 100000
set_option maxHeartbeats 1000000
open Go.RowKit
theorem infoIntsL:(Tryz.prog.info? 22).map (fun i=> (i.zero,i.size,i.bytes))=some (some (.slice none 0 0),1,24):=by kernel_rfl
theorem Ex.frz {w w':World} (h:Ex w w') {p:Addr} {u:Value} (hc:w.cell? p=some u) (hf:w.frozen? p=false):w'.frozen? p=false:=
 (Below.frozen h (World.block_lt_of_cell? w _ hc)).trans hf
theorem Appd.frz {w w':World} {base:Nat} {e:TypeId} {size:Nat} {v v':Value} {n:Nat} {xs news:List Value} (h:Appd w w' base e size v v' n xs news) {a:Addr} {u:Value} (hc:w.cell? a=some u) (hf:w.frozen? a=false) (hne:some a.block≠v.ownBlock):w'.frozen? a=false:=by
 obtain ⟨o,hg⟩:=h.gr;have hlt:=World.block_lt_of_cell? _ _ hc;have e1:(w.alloc o).frozen? a=w.frozen? a:=((Ex.refl w).alloc o).frozen hlt;rw [←hf,←e1];have h2:=hg.block a.block (by simp;omega) hne;unfold World.frozen?;rw [h2]
theorem mchk_shape {q:Nat} {cols:Int} {rows:List (List Int)} (h:mchkS q cols rows=0):0≤cols∧cols≤256∧rows.length≤256∧∀r∈rows,(r.length:Int)=cols∧entS q r=0:=by
 unfold mchkS at h;split at h
 ·cases h
 ·split at h
  ·rename_i h2;split at h
   ·rename_i h1 h3;refine ⟨by omega,by omega,by omega,fun r hr=> ⟨?_,?_⟩⟩
    ·have:=List.all_eq_true.1 h2 r hr;simpa using this
    ·have:=List.all_eq_true.1 h3 r hr;simpa using this
   ·cases h
  ·cases h
theorem isl_nil (w:World):ISl w (.slice none 0 0) []:=Sl.nil w 1
theorem ownsRow_mono {w:World} {base b':Nat} {e:TypeId} {size:Nat} {v:Value} {n:Nat} {xs:List Value} (h:w.ownsRow base e size v n xs) (hb:b'≤base):w.ownsRow b' e size v n xs:=by
 refine ⟨h.1,?_⟩;rcases h.2 with h1 | ⟨g',cap,cur,h1,h2,h3⟩
 ·exact .inl h1
 ·exact .inr ⟨g',cap,cur,h1,Nat.le_trans hb h2,h3⟩
theorem cell_setCell_ne {w:World} {a b:Nat} {i j:Nat} {u:Value} (h:a≠b):(w.setCell ⟨a,i,none⟩ u).cell? ⟨b,j,none⟩=w.cell? ⟨b,j,none⟩:=
 World.cell?_setCell_other _ _ _ _ (by intro e;injection e with e1;exact h e1)
theorem alloc1_cell (w:World) (u:Value) (t:TypeId) {n:Nat} (h:w.heap.size=n):(w.alloc (.cells #[u] t)).cell? ⟨n,0,none⟩=some u:=by subst h;simp
theorem alloc1_frz (w:World) (u:Value) (t:TypeId) {n:Nat} (h:w.heap.size=n):(w.alloc (.cells #[u] t)).frozen? ⟨n,0,none⟩=false:=by subst h;simp
structure MRows (w:World) (base:Nat) (cv:Value) (M:List (List Int)) (vals:List Value):Prop where
 cvo:w.ownsRow base 22 1 cv M.length vals
 row:∀(i:Nat) (r:List Int) (u:Value),M[i]?=some r→vals[i]?=some u→w.ownsRow base 3 1 u r.length (ints r)
 apart:∀u∈vals,Aprt u cv
theorem MRows.nil (w:World) (base:Nat):MRows w base (.slice none 0 0) [] []:=⟨World.ownsRow_nil _ _ _ _,fun i r u h=> by simp at h,fun u h=> by cases h⟩
theorem MRows.len {w:World} {base:Nat} {cv:Value} {M:List (List Int)} {vals:List Value} (h:MRows w base cv M vals):vals.length=M.length:=by
 have:=h.cvo.1;omega
theorem MRows.ex {w w':World} {base:Nat} {cv:Value} {M:List (List Int)} {vals:List Value} (h:MRows w base cv M vals) (hx:Ex w w'):MRows w' base cv M vals:=
 ⟨ownsRow_ex h.cvo hx,fun i r u h1 h2=> ownsRow_ex (h.row i r u h1 h2) hx,h.apart⟩
theorem MRows.setNe {w:World} {base:Nat} {cv:Value} {M:List (List Int)} {vals:List Value} (h:MRows w base cv M vals) {a:Addr} (ha:a.block < base) (u:Value):MRows (w.setCell a u) base cv M vals:=by
 have key:∀ {e:TypeId} {size:Nat} {v:Value} {n:Nat} {xs:List Value},w.ownsRow base e size v n xs→v.ownBlock≠some a.block:=fun k e=> by
  have:=(k.lt _ e).1;omega
 exact ⟨ownsRow_setCell_ne h.cvo (key h.cvo) u,fun i r t h1 h2=> ownsRow_setCell_ne (h.row i r t h1 h2) (key (h.row i r t h1 h2)) u,h.apart⟩
theorem MRows.app {w w':World} {base:Nat} {cv cv' l:Value} {M:List (List Int)} {vals:List Value} {L:List Int} (h:MRows w base cv M vals) (hl:w.ownsRow base 3 1 l L.length (ints L)) (hal:Aprt l cv)
  (ha:Appd w w' base 22 1 cv cv' M.length vals [l]):MRows w' base cv' (M ++ [L]) (vals ++ [l]):=by
 have hn:=h.len;have key:∀u∈vals,∃r,w.ownsRow base 3 1 u r (ints [])∨∃L:List Int,w.ownsRow base 3 1 u L.length (ints L):=fun u hu=> by
  obtain ⟨i,hi,e⟩:=List.getElem_of_mem hu;exact ⟨0,.inr ⟨_,h.row i (M[i]'(by omega)) u (List.getElem?_eq_getElem _) (by rw [List.getElem?_eq_getElem hi,e])⟩⟩
 refine ⟨by simpa using ha.own,fun i r u h1 h2=> ?_,fun u hu=> ?_⟩
 ·by_cases e:i < M.length
  ·rw [List.getElem?_append_left e] at h1;rw [List.getElem?_append_left (by omega)] at h2;exact (ha.row (h.row i r u h1 h2) (h.apart u (List.mem_of_getElem? h2))).1
  ·rw [List.getElem?_append_right (by omega)] at h1 h2;have hi:i - M.length=0:=by
    have:=(List.getElem?_eq_some_iff.1 h1).1;simp at this;omega
   rw [hi] at h1;rw [hn,hi] at h2;simp at h1 h2;subst h1 h2;exact (ha.row hl hal).1
 ·rcases List.mem_append.1 hu with hu | hu
  ·obtain ⟨i,hi,e⟩:=List.getElem_of_mem hu;exact (ha.row (h.row i (M[i]'(by omega)) u (List.getElem?_eq_getElem _) (by rw [List.getElem?_eq_getElem hi,e])) (h.apart u hu)).2
  ·simp at hu;subst hu;exact (ha.row hl hal).2
theorem MRows.msl {w:World} {base:Nat} {cv:Value} {M:List (List Int)} {vals:List Value} (h:MRows w base cv M vals):MSl w cv M:=
 ⟨vals,Sl.own h.cvo,fun i r u h1 h2=> Sl.own (h.row i r u h1 h2)⟩
def fstI (pr:Nat→Bool) (n:Nat):Int:=match (List.range n).find? pr with | some i=> i | none=> -1
theorem fstI_hit {pr:Nat→Bool} {n i:Nat} (h:i < n) (hb:pr i=true) (ha:∀j,j < i→pr j=false):fstI pr n=i:=by
 unfold fstI;have:(List.range n).find? pr=some i:=by
  rw [List.find?_range_eq_some];exact ⟨hb,List.mem_range.2 h,fun j hj=> by rw [ha j hj];rfl⟩
 rw [this]
theorem fstI_miss {pr:Nat→Bool} {n:Nat} (ha:∀j,j < n→pr j=false):fstI pr n=-1:=by
 unfold fstI;have:(List.range n).find? pr=none:=by
  rw [List.find?_eq_none];intro j hj;rw [ha j (List.mem_range.1 hj)];simp
 rw [this]
theorem fstI_any (pr:Nat→Bool) (n:Nat):(List.range n).any pr=decide (0≤fstI pr n):=by
 unfold fstI
 cases h:(List.range n).find? pr with
 | some i=>
  have:=List.find?_some h;have hm:=List.mem_of_find?_eq_some h;simp only;rw [List.any_eq_true.2 ⟨i,hm,this⟩];simp
 | none=>
  rw [List.find?_eq_none] at h;simp only;rw [Bool.eq_iff_iff];constructor
  ·intro h';obtain ⟨i,hi,hb⟩:=List.any_eq_true.1 h';exact absurd hb (h i hi)
  ·intro h';simp at h'
theorem Index_any (w:World) (l:List Int) (v:Value) (x:Int) (hl:ISl w v l):
  Calls Tryz.prog 150 #[v,.int .i64 x] w fun r w'=> r= .returned (.int .i64 (fstI (fun j=> x==l.getD j 0) l.length))∧w=w':=by
 obtain ⟨a,cap,rfl,s1,s2,s3⟩:=hl.open;have S3:=hid_ s3;unfold maxLen at s2;obtain ⟨pr,hpr⟩:∃pr:Nat→Bool,(fun j=> x==l.getD j 0)=pr:=⟨_,rfl⟩;have HPR:=hid_ (show ∀(j:Nat) (y:Int),l[j]?=some y→pr j=(x==y) from fun j y h=> by rw [←hpr];show (x==l.getD j 0)=_;rw [List.getD_eq_getElem?_getD,h];rfl);rw [hpr];clear hl s3 hpr;go_enter Tryz.func150,Tryz.ntmps150
 go_wp2_with fail
 go_loop [5,8] (fun _ i'=> ∃i:Nat,i≤l.length∧i'= .int .i64 i∧Hid (∀j,j < i→pr j=false)) (fun _ i'=> l.length - (intOf i').toNat)
 case atStart=> exact ⟨0,by omega,rfl,hid_ (fun j hj=> by omega)⟩
 case round=>
  obtain ⟨i,hi,rfl,hall⟩:=hrel;by_cases hlt:i < l.length
  ·obtain ⟨y,hy⟩:∃y,l[i]?=some y:=⟨_,List.getElem?_eq_getElem hlt⟩;obtain ⟨bb,o,rfl,hc⟩:=S3.out (by omega);have c1:=hc i y hy;have HP:=hid_ (HPR.out i y hy);clear hc hy
   cases hb:(x==y) with
   | true=>
    have HF:=hid_ (fstI_hit hlt (HP.out.trans hb) hall.out);go_wp2_with fail
    go_ret;exact ⟨ret_int HF.out.symm,rfl⟩
   | false=>
    have HA:=hid_ (show ∀j,j < i + 1→pr j=false from fun j hj=> by
     by_cases e:j=i
     ·subst e;exact HP.out.trans hb
     ·exact hall.out j (by omega))
    go_wp2_with fail
    go_round
    case rel=> exact ⟨i + 1,by omega,by go_num,HA⟩
    case measure=> simp [intOf];omega
  ·obtain rfl:i=l.length:=by omega
   have HF:=hid_ (fstI_miss hall.out);go_wp2_with fail
   go_ret;exact ⟨ret_int HF.out.symm,rfl⟩
theorem any_eq_contains (x:Int) (l:List Int):((List.range l.length).any fun j=> x==l.getD j 0)=l.contains x:=by
 rw [Bool.eq_iff_iff];simp only [List.any_eq_true,List.mem_range,List.contains_iff_mem,beq_iff_eq,List.getD_eq_getElem?_getD];constructor
 ·rintro ⟨j,hj,e⟩;rw [List.getElem?_eq_getElem hj] at e;rw [e];exact List.getElem_mem hj
 ·intro h;obtain ⟨j,hj,e⟩:=List.getElem_of_mem h;exact ⟨j,hj,by rw [List.getElem?_eq_getElem hj,e];rfl⟩
theorem Contains_any (w:World) (l:List Int) (v:Value) (x:Int) (hl:ISl w v l):
  Calls Tryz.prog 109 #[v,.int .i64 x] w fun r w'=> r= .returned (.bool (l.contains x))∧w=w':=by
 have HC:=hid_ (Index_any w l v x hl);have HB:=hid_ ((any_eq_contains x l).symm.trans (fstI_any _ _));obtain ⟨z,hz⟩:∃z,fstI (fun j=> x==l.getD j 0) l.length=z:=⟨_,rfl⟩;rw [hz] at HC HB;clear hz hl;go_enter Tryz.func109,Tryz.ntmps109
 go_wp2_with (go_at_call 150;refine HC.out.mono ?_;rintro e w' ⟨rfl,rfl⟩)
 go_ret;exact ⟨ret_bool HB.out.symm,rfl⟩
theorem ints_vs (l:List Int):ints l=vs l.length (iv fun j=> l.getD j 0):=by
 apply List.ext_getElem?;intro j;by_cases h:j < l.length
 ·rw [vs_get h];simp [ints,iv,h,List.getD_eq_getElem?_getD]
 ·rw [List.getElem?_eq_none_iff.2 (by rw [ints_length];omega),List.getElem?_eq_none_iff.2 (by rw [vs_length];omega)]
theorem Clone_any (w:World) (l:List Int) (v:Value) (hl:ISl w v l) (hn:1≤l.length) (hn2:l.length≤1000):
  Calls Tryz.prog 66 #[v] w fun r w'=> ∃g cap,r= .returned (.slice (some ⟨g,0,none⟩) l.length cap)∧OwnC w' w.heap.size 3 g l.length cap (iv fun j=> l.getD j 0)∧Ex w w':=by
 have HL:=hid_ hl;obtain ⟨a,cap,rfl,s1,s2,s3⟩:=hl.open;obtain ⟨b,o,rfl,_⟩:=s3 (by omega);have hnil:=fun w'=> run_eql_slice_nil (P:=Tryz.prog) w' 22 3 (some ⟨b,o,none⟩) l.length cap Tryz.underlying22;simp only [Option.isNone] at hnil;have hmi:∀u∈ints l,u.oneCell'=true:=by
  intro u hu;obtain ⟨z,_,rfl⟩:=List.mem_map.1 hu;rfl
 have HON:=hid_ hmi;have HIV:=hid_ (ints_vs l);clear s3 hl hmi;go_enter Tryz.func66,Tryz.ntmps66
 go_wp2_with (at_builtin;refine wpList_append_sl _ rfl _ _ 22 rfl w.heap.size 3 (.int .i64 0) 1 8 Tryz.underlying22 infoInt rfl (by decide) _ 0 [] rfl (own_lit0 w 3) (.slice (some ⟨b,o,none⟩) l.length cap) l.length (ints l) rfl (HL.out.ex ((Ex.refl w).alloc _)) HON.out (by unfold maxLen;omega) (by omega) (by simp) ?_)
 intro v1 w1 hown1 hg1 ha1;have hx1:Ex w w1:=Ex.grown ((Ex.refl w).alloc _) (own_lit0 w 3) (Nat.le_refl _) hg1;rw [HIV.out] at hown1;obtain ⟨g,c2,rfl,hown⟩:=ownC_of hown1 hn;have HO:=hid_ hown;have HX:=hid_ hx1;clear hown hown1 hg1 ha1 hx1 hnil;go_wp2_with fail
 go_ret;exact ⟨g,c2,rfl,HO.out,HX.out⟩
theorem eq_of_get {l k:List Int} (hl:l.length=k.length) (h:∀j,j < l.length→l[j]?=k[j]?):l=k:=by
 apply List.ext_getElem?;intro j;by_cases hj:j < l.length
 ·exact h j hj
 ·rw [List.getElem?_eq_none_iff.2 (by omega),List.getElem?_eq_none_iff.2 (by omega)]
theorem SameInts_any (w:World) (l k:List Int) (v u:Value) (hl:ISl w v l) (hk:ISl w u k):
  Calls Tryz.prog 19 #[v,u] w fun r w'=> r= .returned (.bool (decide (l=k)))∧∃n,w'=w.drewN n:=by
 obtain ⟨a,cap,rfl,s1,s2,s3⟩:=hl.open;obtain ⟨c,cc,rfl,t1,t2,t3⟩:=hk.open;have S3:=hid_ s3;have T3:=hid_ t3;unfold maxLen at s2 t2;clear hl hk s3 t3;by_cases hlk:l.length=k.length
 ·have hb:((l.length:Int) !=(k.length:Int))=false:=by simp;omega
  have HLK:=hid_ hlk;clear hlk;go_enter Tryz.func19,Tryz.ntmps19
  go_wp2_with fail
  go_loopw [5] (fun i' wr=> ∃i n:Nat,i≤l.length∧i'= .int .i64 i∧wr=w.drewN n∧Hid (∀j,j < i→l[j]?=k[j]?)) (fun i' _=> l.length - (intOf i').toNat)
  case atStart=> exact ⟨0,0,by omega,rfl,rfl,hid_ (fun j hj=> by omega)⟩
  case round=>
   obtain ⟨i,n,hi,rfl,rfl,hall⟩:=hrel;by_cases hlt:i < l.length
   ·obtain ⟨x,hx⟩:∃x,l[i]?=some x:=⟨_,List.getElem?_eq_getElem hlt⟩;have hik:i < k.length:=by have:=HLK.out;omega
    obtain ⟨y,hy⟩:∃y,k[i]?=some y:=⟨_,List.getElem?_eq_getElem hik⟩;obtain ⟨b,o,rfl,hc⟩:=S3.out (by omega);obtain ⟨b2,o2,rfl,hc2⟩:=T3.out (by omega);have c1:=((Ex.refl w).drewN n).cell (hc i x hx);have c2:=((Ex.refl w).drewN n).cell (hc2 i y hy);have i1:(0:Int)≤(i:Int):=by omega
    have i2:(i:Int) < (l.length:Int):=by omega
    have i3:(i:Int) < (k.length:Int):=by omega
    obtain ⟨W,hW⟩:∃W,w.drewN n=W:=⟨_,rfl⟩;rw [hW] at c1 c2 ⊢;have HWE:=hid_ hW;clear hW;by_cases hxy:x=y
    ·have HA:=hid_ (show ∀j,j < i + 1→l[j]?=k[j]? from fun j hj=> by
      by_cases e:j=i
      ·subst e;rw [hx,hy,hxy]
      ·exact hall.out j (by omega))
     have hbb:(x !=y)=false:=by simpa using hxy
     clear hc hc2 hx hy hxy;go_wp2_with fail
     go_quiet (fail)
     go_wp2_with fail
     go_roundw
     case rel=> exact ⟨i + 1,_,by omega,by go_num,by rw [←HWE.out,World.drewN_drewN],HA⟩
     case measure=> simp [intOf];omega
    ·have HN:=hid_ (show ¬l=k from fun e=> hxy (by rw [e,hy] at hx;injection hx with hx;exact hx.symm));have hbb:(x !=y)=true:=by simpa using hxy
     clear hc hc2 hx hy hxy;go_wp2_with fail
     go_quiet (fail)
     go_wp2_with fail
     go_ret;exact ⟨ret_bool (decide_eq_false HN.out).symm,_,by rw [←HWE.out,World.drewN_drewN]⟩
   ·obtain rfl:i=l.length:=by omega
    have HE:=hid_ (eq_of_get HLK.out hall.out);go_wp2_with fail
    go_ret;exact ⟨ret_bool (decide_eq_true HE.out).symm,n,rfl⟩
 ·have hb:((l.length:Int) !=(k.length:Int))=true:=by simp;omega
  have HN:=hid_ (show ¬l=k from fun e=> hlk (by rw [e]));clear hlk;go_enter Tryz.func19,Tryz.ntmps19
  go_wp2_with fail
  go_ret;exact ⟨ret_bool (decide_eq_false HN.out).symm,0,rfl⟩
theorem rows_eq_of_get {l k:List (List Int)} (hl:l.length=k.length) (h:∀j,j < l.length→l[j]?=k[j]?):l=k:=by
 apply List.ext_getElem?;intro j;by_cases hj:j < l.length
 ·exact h j hj
 ·rw [List.getElem?_eq_none_iff.2 (by omega),List.getElem?_eq_none_iff.2 (by omega)]
theorem SameRows_any (w:World) (l k:List (List Int)) (v u:Value) (hl:MSl w v l) (hk:MSl w u k):
  Calls Tryz.prog 77 #[v,u] w fun r w'=> r= .returned (.bool (decide (l=k)))∧∃n,w'=w.drewN n:=by
 obtain ⟨a,cap,rfl,s1,s2,s3⟩:=hl.open;obtain ⟨c,cc,rfl,t1,t2,t3⟩:=hk.open;have S3:=hid_ s3;have T3:=hid_ t3;unfold maxLen at s2 t2;clear hl hk s3 t3;by_cases hlk:l.length=k.length
 ·have hb:((l.length:Int) !=(k.length:Int))=false:=by simp;omega
  have HLK:=hid_ hlk;clear hlk;go_enter Tryz.func77,Tryz.ntmps77
  go_wp2_with fail
  go_loopw [5] (fun i' wr=> ∃i n:Nat,i≤l.length∧i'= .int .i64 i∧wr=w.drewN n∧Hid (∀j,j < i→l[j]?=k[j]?)) (fun i' _=> l.length - (intOf i').toNat)
  case atStart=> exact ⟨0,0,by omega,rfl,rfl,hid_ (fun j hj=> by omega)⟩
  case round=>
   obtain ⟨i,n,hi,rfl,rfl,hall⟩:=hrel;by_cases hlt:i < l.length
   ·obtain ⟨x,hx⟩:∃x,l[i]?=some x:=⟨_,List.getElem?_eq_getElem hlt⟩;have hik:i < k.length:=by have:=HLK.out;omega
    obtain ⟨y,hy⟩:∃y,k[i]?=some y:=⟨_,List.getElem?_eq_getElem hik⟩;obtain ⟨b,o,rfl,hc⟩:=S3.out (by omega);obtain ⟨b2,o2,rfl,hc2⟩:=T3.out (by omega);obtain ⟨u1,e1,hu1⟩:=hc i x hx;obtain ⟨u2,e2,hu2⟩:=hc2 i y hy;have c1:=((Ex.refl w).drewN n).cell e1;have c2:=((Ex.refl w).drewN n).cell e2;have hv1:=hu1.ex ((Ex.refl w).drewN n);have hv2:=hu2.ex ((Ex.refl w).drewN n);have i1:(0:Int)≤(i:Int):=by omega
    have i2:(i:Int) < (l.length:Int):=by omega
    have i3:(i:Int) < (k.length:Int):=by omega
    obtain ⟨W,hW⟩:∃W,w.drewN n=W:=⟨_,rfl⟩;rw [hW] at c1 c2 hv1 hv2 ⊢;have HWE:=hid_ hW;have HSI:=hid_ (fun n'=> SameInts_any (W.drewN n') x y u1 u2 (hv1.ex ((Ex.refl W).drewN n')) (hv2.ex ((Ex.refl W).drewN n')));obtain ⟨ua,uc,rfl,_,_,_⟩:=hv1.open;obtain ⟨va,vc,rfl,_,_,_⟩:=hv2.open;by_cases hxy:x=y
    ·have HA:=hid_ (show ∀j,j < i + 1→l[j]?=k[j]? from fun j hj=> by
      by_cases e:j=i
      ·subst e;rw [hx,hy,hxy]
      ·exact hall.out j (by omega))
     rw [decide_eq_true hxy] at HSI;clear hc hc2 hx hy hxy hW hu1 hu2 e1 e2 hv1 hv2;go_wp2_with fail
     go_quiet ((go_at_call 19;exact quiet_draw (HSI.out _)))
     go_wp2_with fail
     go_roundw
     case rel=> exact ⟨i + 1,_,by omega,by go_num,by rw [←HWE.out,World.drewN_drewN],HA⟩
     case measure=> simp [intOf];omega
    ·have HN:=hid_ (show ¬l=k from fun e=> hxy (by rw [e,hy] at hx;injection hx with hx;exact hx.symm));rw [decide_eq_false hxy] at HSI;clear hc hc2 hx hy hxy hW hu1 hu2 e1 e2 hv1 hv2;go_wp2_with fail
     go_quiet ((go_at_call 19;exact quiet_draw (HSI.out _)))
     go_wp2_with fail
     go_ret;exact ⟨ret_bool (decide_eq_false HN.out).symm,_,by rw [←HWE.out,World.drewN_drewN]⟩
   ·obtain rfl:i=l.length:=by omega
    have HE:=hid_ (rows_eq_of_get HLK.out hall.out);go_wp2_with fail
    go_ret;exact ⟨ret_bool (decide_eq_true HE.out).symm,n,rfl⟩
 ·have hb:((l.length:Int) !=(k.length:Int))=true:=by simp;omega
  have HN:=hid_ (show ¬l=k from fun e=> hlk (by rw [e]));clear hlk;go_enter Tryz.func77,Tryz.ntmps77
  go_wp2_with fail
  go_ret;exact ⟨ret_bool (decide_eq_false HN.out).symm,0,rfl⟩
end Go.Proofs.YtgdmlmhpineibaaGreat
