/- Walks of matrix.add and of the field's Scale. -/
import Derived.RegionTactic
import Derived.BigRegion
import Derived.Test.YtgdmlmhpineibaaGreatZg12
import Derived.Test.YtgdmlmhpineibaaGreatZg13
namespace Go.Proofs.YtgdmlmhpineibaaGreat
set_option linter.unusedVariables false
set_option linter.unusedSimpArgs false
set_option maxRecDepth 100000
set_option maxHeartbeats 4000000
section
open Go.RowKit
theorem grow_trans {a b c:World} {row:Option Nat} (h:a.grownBy b row) (k:b.grownBy c row):a.grownBy c row:=
 ⟨k.os.trans h.os,k.tape.trans h.tape,k.output.trans h.output,Nat.le_trans h.size k.size,fun i hi hne=> (k.block i (Nat.lt_of_lt_of_le hi h.size) hne).trans (h.block i hi hne)⟩
theorem grow_ex {a b:World} (row:Option Nat) (h:Ex a b):a.grownBy b row:=⟨h.os,h.tape,h.output,h.size,fun i hi _=> h.block i hi⟩
theorem grow_set (w:World) (g j:Nat) (u:Value):w.grownBy (w.setCell ⟨g,j,none⟩ u) (some g):=by
 have h:Below g w (w.setCell ⟨g,j,none⟩ u):=Below.setCell (Below.refl g w) (Nat.le_refl _) u;refine ⟨h.os,h.tape,h.output,h.size,fun k hk hne=> ?_⟩;have hk':k≠g:=fun e=> hne (by rw [e]);by_cases hlt:k < g
 ·exact h.block k hlt
 ·exact Below.heap_setCell w ⟨g,j,none⟩ u k hk'
theorem madd_any {p m:Nat} {ml:List Int} {b x0:Nat} (w0 w:World) (hg:GFat w0 b p m ml x0) (hx:Ex w0 w) (N vb cap base:Nat) (f u:Nat→Int) (a:Int) (uv:Value) (hb:w0.heap.size≤base) (hv:OwnC w base 3 vb N cap (iv f)) (hu:ISl w uv (il N u)) (hub:uv.ownBlock≠some vb) (hN:N≤1000):
  Calls Tryz.prog 160 #[.pointer (some ⟨b,0,none⟩),.slice (some ⟨vb,0,none⟩) N cap,.int .i64 a,uv] w fun r w'=> (∃t,r= .returned t)∧OwnC w' base 3 vb N cap (iv (addF p m ml f (kin (p ^ m) a) u))∧w.grownBy w' (some vb):=by
 obtain ⟨ua,uc,rfl,u1,u2,u3⟩:=hu.open;rw [il_len] at u1 u3 ⊢;unfold maxLen at u2;obtain ⟨c1,c2⟩:=hv.caps;unfold maxLen at c2;have U3:=hid_ u3;have HUB:=hid_ hub;have HX:=hid_ hx;have HGF:=hid_ hg;have HV:=hid_ hv;have HO:=hid_ (show OwnC w base 3 vb N cap (iv fun j=> if j < 0 then addF p m ml f (kin (p ^ m) a) u j else f j) from hv.icongr fun j _=> by simp);clear u3 hu hub hv hx hg;go_enter Tryz.func160,Tryz.ntmps160
 go_wp2_with fail
 go_loopw [12] (fun k' wr=> ∃k:Nat,k≤N∧k'= .int .i64 k∧Hid (OwnC wr base 3 vb N cap (iv fun j=> if j < k then addF p m ml f (kin (p ^ m) a) u j else f j))∧Hid (w.grownBy wr (some vb))) (fun k' _=> N - (intOf k').toNat)
 case atStart=> exact ⟨0,by omega,rfl,HO,hid_ (World.grownBy.refl _ _)⟩
 case round=>
  clear HO;obtain ⟨k,hk,rfl,hown,hgr⟩:=hrel;by_cases hkl:k < N
  ·obtain ⟨ub,uo,rfl,huc⟩:=U3.out (by omega);have hne:ub≠vb:=fun e=> HUB.out (by rw [e];rfl);have d1:=hgr.out.cell (huc k (u k) (il_get hkl u)) (by intro e;injection e with e;exact hne e);have i1:(0:Int)≤(k:Int):=by omega
   have i2:(k:Int) < (N:Int):=by omega
   have HEX:=hid_ (Ex.grown HX.out HV.out hb hgr.out);clear huc hne;by_cases h0:u k=0
   ·have hb0:(u k !=0)=false:=by simp [h0]
    have HO2:=hid_ (show OwnC wr base 3 vb N cap (iv fun j=> if j < k + 1 then addF p m ml f (kin (p ^ m) a) u j else f j) from hown.out.icongr fun j hj=> by
     by_cases e:j=k
     ·subst e;rw [if_neg (show ¬j < j by omega),if_pos (show j < j + 1 by omega)];unfold addF;rw [if_pos h0]
     ·by_cases h:j < k
      ·rw [if_pos h,if_pos (show j < k + 1 by omega)]
      ·rw [if_neg h,if_neg (show ¬j < k + 1 by omega)])
    clear hown h0;go_wp2_with fail
    go_roundw
    case rel=> exact ⟨k + 1,by omega,by go_num,HO2,hgr⟩
    case measure=> simp [intOf];omega
   ·have hb0:(u k !=0)=true:=by simpa using h0
    have hcv:wr.cell? ⟨vb,k,none⟩=some (.int .i64 (f k)):=by
     rw [hown.out.cell hkl];show some (Value.int .i64 (if k < k then _ else f k))=_;rw [if_neg (by omega)]
    have hfv:=hown.out.frz k;obtain ⟨K1,hK1⟩:∃K,kmul p m (lw ml) (kin (p ^ m) a) (kin (p ^ m) (u k))=K:=⟨_,rfl⟩;have hK1l:K1 < p ^ m:=by rw [←hK1];exact kmul_lt (by have:=HGF.out.sh.p2;omega) _ _
    have HMUL:=hid_ (fun w' (h:Ex w0 w')=> Mul_any w' (HGF.out.ex h) a (u k));rw [hK1] at HMUL;obtain ⟨K2,hK2⟩:∃K,kadd p m (kin (p ^ m) (f k)) (kin (p ^ m) (K1:Nat))=K:=⟨_,rfl⟩;have HADD:=hid_ (fun w' (h:Ex w0 w')=> Add_any w' (HGF.out.ex h) (f k) (K1:Nat));rw [hK2] at HADD;have HAF:=hid_ (show addF p m ml f (kin (p ^ m) a) u k=(K2:Nat) from by
     unfold addF;rw [if_neg h0,hK1,←hK2,kin_of hK1l])
    clear hK1 hK2 hK1l h0;go_upto_region 4 with fail
    have E1:Ex wr wr.drew:=(Ex.refl wr).drew;have G0:Ex w0 wr.drew:=HEX.out.trans E1
    go_region_law
     ((first
            | (go_simp;go_at_call 59;(with_reducible refine (HMUL.out _ (HEX.out.drewN _)).mono ?_);rintro e wx1 ⟨rfl,n1,rfl⟩)
            | (go_simp;go_at_call 59;(with_reducible refine (HMUL.out _ G0).mono ?_);rintro e wx1 ⟨rfl,n1,rfl⟩)
            | (go_simp;go_at_call 94;(with_reducible refine (HADD.out _ (HEX.out.drewN _)).mono ?_);rintro e wx2 ⟨rfl,n2,rfl⟩)))
    all_goals
     have HO2:=hid_ (fun n=> ((hown.out.drewN n).set k (.int .i64 (K2:Nat))));have HG2:=hid_ (fun n=> grow_trans hgr.out (grow_trans (grow_ex (some vb) ((Ex.refl wr).drewN n)) (grow_set (wr.drewN n) vb k (.int .i64 (K2:Nat)))));clear hown hgr HMUL HADD E1 G0 hcv hfv;go_wp2_with fail
     go_roundw
     case rel=> exact ⟨k + 1,by omega,by go_num,hid_ ((HO2.out _).congr fun j hj=> by
      by_cases e:j=k
      ·subst e;rw [upd_same];show _=Value.int .i64 (if j < j + 1 then addF p m ml f (kin (p ^ m) a) u j else f j);rw [if_pos (by omega),HAF.out]
      ·rw [upd_ne _ _ e];show Value.int .i64 (if j < k then addF p m ml f (kin (p ^ m) a) u j else f j)=Value.int .i64 (if j < k + 1 then addF p m ml f (kin (p ^ m) a) u j else f j)
       by_cases h:j < k
       ·rw [if_pos h,if_pos (by omega)]
       ·rw [if_neg h,if_neg (by omega)]),hid_ (HG2.out _)⟩
     case measure=> simp [intOf];omega
  ·obtain rfl:N=k:=by omega
   have HO2:=hid_ (show OwnC wr base 3 vb N cap (iv (addF p m ml f (kin (p ^ m) a) u)) from hown.out.icongr fun j hj=> by rw [if_pos hj]);clear hown;go_wp2_with fail
   go_end0
   exact ⟨⟨_,rfl⟩,HO2.out,hgr.out⟩
theorem Scale_any {p m:Nat} {ml:List Int} {b x0:Nat} (w:World) (hg:GFat w b p m ml x0) (N:Nat) (u:Nat→Int) (a:Int) (uv:Value) (hu:ISl w uv (il N u)) (hN:N≤1000):
  Calls Tryz.prog 152 #[.pointer (some ⟨b,0,none⟩),.int .i64 a,uv] w fun r w'=> ∃g,r= .returned (.slice (some ⟨g,0,none⟩) N N)∧Own w' w.heap.size 3 g N (iv (sclF p m ml (kin (p ^ m) a) u))∧Ex w w':=by
 obtain ⟨ua,uc,rfl,u1,u2,u3⟩:=hu.open;rw [il_len] at u1 u3 ⊢;unfold maxLen at u2;have U3:=hid_ u3;have HGF:=hid_ hg;clear u3 hu hg;go_enter Tryz.func152,Tryz.ntmps152
 go_wp2_with (at_make;refine wpList_make_arr _ rfl _ _ 22 rfl 3 (.int .i64 0) 8 Tryz.underlying22 infoInt rfl _ N rfl rfl rfl (by omega) (by unfold maxLen;omega) ?_)
 intro w3 hown hx3;obtain ⟨g,hgg⟩:∃g,w.heap.size=g:=⟨_,rfl⟩;have HSZ:=hid_ hgg;rw [hgg] at hown ⊢
 try simp only [hgg]
 have HO:=hid_ (show Own w3 g 3 g N (iv fun j=> if j < 0 then sclF p m ml (kin (p ^ m) a) u j else 0) from hown.icongr fun j _=> by simp);have HX:=hid_ hx3;clear hown hx3 hgg;go_wp2_with fail
 go_loopw [15] (fun k' wr=> ∃k:Nat,k≤N∧k'= .int .i64 k∧Hid (Own wr g 3 g N (iv fun j=> if j < k then sclF p m ml (kin (p ^ m) a) u j else 0))∧Hid (Ex w wr)) (fun k' _=> N - (intOf k').toNat)
 case atStart=> exact ⟨0,by omega,rfl,HO,HX⟩
 case round=>
  clear HO HX;obtain ⟨k,hk,rfl,hown,hx⟩:=hrel;by_cases hkl:k < N
  ·obtain ⟨ub,uo,rfl,huc⟩:=U3.out (by omega);have d1:=hx.out.cell (huc k (u k) (il_get hkl u));have i1:(0:Int)≤(k:Int):=by omega
   have i2:(k:Int) < (N:Int):=by omega
   have hcv:=hown.out.cell hkl;have hfv:=hown.out.frz k;obtain ⟨K1,hK1⟩:∃K,kmul p m (lw ml) (kin (p ^ m) a) (kin (p ^ m) (u k))=K:=⟨_,rfl⟩;have HMUL:=hid_ (Mul_any wr (HGF.out.ex hx.out) a (u k));rw [hK1] at HMUL;have HSC:=hid_ (show sclF p m ml (kin (p ^ m) a) u k=(K1:Nat) from by unfold sclF;rw [hK1]);clear hK1 huc;go_wp2_with (go_at_call 59;refine HMUL.out.mono ?_;rintro e w4 ⟨rfl,n,rfl⟩)
   have HO2:=hid_ (fun n=> (hown.out.drewN n).set k (.int .i64 (K1:Nat)));have HX2:=hid_ (fun n=> (hown.out.drewN n).exSet (a:=w) (by have:=HSZ.out;omega) (hx.out.drewN n) k (.int .i64 (K1:Nat)));clear hown hx HMUL hcv hfv d1;go_roundw
   case rel=> exact ⟨k + 1,by omega,by go_num,hid_ ((HO2.out _).congr fun j hj=> by
    by_cases e:j=k
    ·subst e;rw [upd_same];show _=Value.int .i64 (if j < j + 1 then sclF p m ml (kin (p ^ m) a) u j else 0);rw [if_pos (by omega),HSC.out]
    ·rw [upd_ne _ _ e];show Value.int .i64 (if j < k then sclF p m ml (kin (p ^ m) a) u j else 0)=Value.int .i64 (if j < k + 1 then sclF p m ml (kin (p ^ m) a) u j else 0)
     by_cases h:j < k
     ·rw [if_pos h,if_pos (by omega)]
     ·rw [if_neg h,if_neg (by omega)]),hid_ (HX2.out _)⟩
   case measure=> simp [intOf];omega
  ·obtain rfl:N=k:=by omega
   have HO2:=hid_ (show Own wr g 3 g N (iv (sclF p m ml (kin (p ^ m) a) u)) from hown.out.icongr fun j hj=> by rw [if_pos hj]);clear hown;go_wp2_with fail
   go_ret;exact ⟨g,rfl,by rw [HSZ.out];exact HO2.out,hx.out⟩
end
section
open Go.RowKit
def rowV (blk cap:Nat→Nat) (N i:Nat):Value:= .slice (some ⟨blk i,0,none⟩) N (cap i)
structure EM (w:World) (base g R N:Nat) (blk cap:Nat→Nat) (a:Nat→Nat→Int) (avs:List Nat):Prop where
 arr:Own w base 22 g R (rowV blk cap N)
 row:∀i,i < R→OwnC w base 3 (blk i) N (cap i) (iv (a i))
 apart:∀i j,i < R→j < R→i≠j→blk i≠blk j
 off:∀i,i < R→blk i≠g
 av:∀B∈avs,B < w.heap.size∧g≠B∧∀i,i < R→blk i≠B
def Kp (w w':World) (avs:List Nat):Prop:=∀B∈avs,w'.heap[B]?=w.heap[B]?
theorem Kp.trans {a b c:World} {avs:List Nat} (h:Kp a b avs) (k:Kp b c avs):Kp a c avs:=fun B hB=> (k B hB).trans (h B hB)
theorem Kp.cell {w w':World} {avs:List Nat} (h:Kp w w' avs) {B o:Nat} {v:Value} (hB:B∈avs) (hc:w.cell? ⟨B,o,none⟩=some v):w'.cell? ⟨B,o,none⟩=some v:=by
 rw [World.cell?_of_block (h B hB)];exact hc
section
variable {w:World} {base g R N:Nat} {blk cap:Nat→Nat} {a:Nat→Nat→Int} {avs:List Nat}
theorem EM.ex (h:EM w base g R N blk cap a avs) {w':World} (hx:Ex w w'):EM w' base g R N blk cap a avs:=
 ⟨h.arr.ex hx,fun i hi=> (h.row i hi).ex hx,h.apart,h.off,fun B hB=> by obtain ⟨h1,h2⟩:=h.av B hB;exact ⟨Nat.lt_of_lt_of_le h1 hx.size,h2⟩⟩
theorem EM.kpx (h:EM w base g R N blk cap a avs) {w':World} (hx:Ex w w'):Kp w w' avs:=fun B hB=> hx.block B (h.av B hB).1
theorem EM.less (h:EM w base g R N blk cap a avs) {bvs:List Nat} (hs:∀B∈bvs,B∈avs):EM w base g R N blk cap a bvs:=⟨h.arr,h.row,h.apart,h.off,fun B hB=> h.av B (hs B hB)⟩
theorem EM.box (h:EM w base g R N blk cap a avs) (o:Obj):EM (w.alloc o) base g R N blk cap a (w.heap.size :: avs):=by
 have h1:=h.ex ((Ex.refl w).alloc o);refine ⟨h1.arr,h1.row,h1.apart,h1.off,fun C hC=> ?_⟩;rcases List.mem_cons.1 hC with rfl | hC
 ·refine ⟨by simp,fun e=> ?_,fun i hi e=> ?_⟩
  ·have:=h.arr.lt.2;omega
  ·have:=(h.row i hi).lt.2;omega
 ·exact h1.av C hC
theorem heap_size_set (w:World) (x:Addr) (u:Value):(w.setCell x u).heap.size=w.heap.size:=by simp
theorem EM.setBox (h:EM w base g R N blk cap a avs) {B j:Nat} (hB:B∈avs) (u:Value):EM (w.setCell ⟨B,j,none⟩ u) base g R N blk cap a avs:=by
 obtain ⟨_,h2,h3⟩:=h.av B hB;exact ⟨h.arr.other h2 u,fun i hi=> (h.row i hi).other (h3 i hi) u,h.apart,h.off,fun C hC=> by rw [heap_size_set];exact h.av C hC⟩
theorem EM.put (h:EM w base g R N blk cap a avs) {s nb nc:Nat} {f:Nat→Int} (hs:s < R) (hn:OwnC w base 3 nb N nc (iv f)) (hb:∀i,i < R→i≠s→blk i≠nb) (hg:nb≠g) (ha:∀B∈avs,nb≠B):
  EM (w.setCell ⟨g,s,none⟩ (.slice (some ⟨nb,0,none⟩) N nc)) base g R N (upd blk s nb) (upd cap s nc) (upd a s f) avs:=by
 have hu:∀i,i≠s→upd blk s nb i=blk i:=fun i hi=> upd_ne _ _ hi;refine ⟨?_,fun i hi=> ?_,fun i j hi hj hij=> ?_,fun i hi=> ?_,fun B hB=> ?_⟩
 ·refine (h.arr.set s _).congr fun i hi=> ?_;unfold rowV;by_cases e:i=s
  ·subst e;rw [upd_same,upd_same,upd_same]
  ·rw [upd_ne _ _ e,upd_ne _ _ e,upd_ne _ _ e]
 ·by_cases e:i=s
  ·subst e;rw [upd_same,upd_same,upd_same];exact hn.other hg _
  ·rw [upd_ne _ _ e,upd_ne _ _ e,upd_ne _ _ e];exact (h.row i hi).other (h.off i hi) _
 ·by_cases e:i=s
  ·subst e;rw [upd_same,hu j (fun e=> hij e.symm)];exact fun e=> hb j hj (fun e=> hij e.symm) e.symm
  ·by_cases e2:j=s
   ·subst e2;rw [upd_same,hu i e];exact hb i hi e
   ·rw [hu i e,hu j e2];exact h.apart i j hi hj hij
 ·by_cases e:i=s
  ·subst e;rw [upd_same];exact hg
  ·rw [hu i e];exact h.off i hi
 ·rw [heap_size_set];obtain ⟨h1,h2,h3⟩:=h.av B hB;refine ⟨h1,h2,fun i hi=> ?_⟩;by_cases e:i=s
  ·subst e;rw [upd_same];exact ha B hB
  ·rw [hu i e];exact h3 i hi
theorem EM.rowAt (h:EM w base g R N blk cap a avs) {w':World} {s:Nat} {f:Nat→Int} (hs:s < R) (hn:OwnC w' base 3 (blk s) N (cap s) (iv f)) (hg:w.grownBy w' (some (blk s))):EM w' base g R N blk cap (upd a s f) avs∧Kp w w' avs:=by
 refine ⟨⟨?_,fun i hi=> ?_,h.apart,h.off,fun B hB=> ?_⟩,fun B hB=> ?_⟩
 ·exact World.ownsRow.kept h.arr hg (.inr (by show some g≠some (blk s);intro e;injection e with e;exact h.off s hs e.symm))
 ·by_cases e:i=s
  ·subst e;rw [upd_same];exact hn
  ·rw [upd_ne _ _ e];exact World.ownsRow.kept (h.row i hi) hg (.inr (by show some (blk i)≠some (blk s);intro e2;injection e2 with e2;exact h.apart i s hi hs e e2))
 ·obtain ⟨h1,h2⟩:=h.av B hB;exact ⟨Nat.lt_of_lt_of_le h1 hg.size,h2⟩
 ·obtain ⟨h1,h2,h3⟩:=h.av B hB;exact hg.block B h1 (by intro e;injection e with e;exact h3 s hs e.symm)
theorem EM.cell (h:EM w base g R N blk cap a avs) {i:Nat} (hi:i < R):w.cell? ⟨g,i,none⟩=some (.slice (some ⟨blk i,0,none⟩) N (cap i)):=h.arr.cell hi
theorem EM.ent (h:EM w base g R N blk cap a avs) {i j:Nat} (hi:i < R) (hj:j < N):w.cell? ⟨blk i,j,none⟩=some (.int .i64 (a i j)):=(h.row i hi).cell hj
def swpN (b:Nat→Nat) (s k:Nat):Nat→Nat:=fun i=> if i=s then b k else if i=k then b s else b i
theorem EM.swp (h:EM w base g R N blk cap a avs) {s k:Nat} (hs:s < R) (hk:k < R) (hsk:s≠k):
  EM ((w.setCell ⟨g,s,none⟩ (rowV blk cap N k)).setCell ⟨g,k,none⟩ (rowV blk cap N s)) base g R N (swpN blk s k) (swpN cap s k) (swpA a s k) avs:=by
 have hsz:((w.setCell ⟨g,s,none⟩ (rowV blk cap N k)).setCell ⟨g,k,none⟩ (rowV blk cap N s)).heap.size=w.heap.size:=by rw [heap_size_set,heap_size_set]
 have key:∀i,i < R→∃j,j < R∧swpN blk s k i=blk j∧swpN cap s k i=cap j∧swpA a s k i=a j∧((i=s∧j=k)∨(i=k∧i≠s∧j=s)∨(i≠s∧i≠k∧j=i)):=fun i hi=> by
  unfold swpN swpA;by_cases e:i=s
  ·exact ⟨k,hk,by rw [if_pos e],by rw [if_pos e],by rw [if_pos e],.inl ⟨e,rfl⟩⟩
  ·by_cases e2:i=k
   ·exact ⟨s,hs,by rw [if_neg e,if_pos e2],by rw [if_neg e,if_pos e2],by rw [if_neg e,if_pos e2],.inr (.inl ⟨e2,e,rfl⟩)⟩
   ·exact ⟨i,hi,by rw [if_neg e,if_neg e2],by rw [if_neg e,if_neg e2],by rw [if_neg e,if_neg e2],.inr (.inr ⟨e,e2,rfl⟩)⟩
 refine ⟨?_,fun i hi=> ?_,fun i j hi hj hij=> ?_,fun i hi=> ?_,fun B hB=> ?_⟩
 ·refine ((h.arr.set s (rowV blk cap N k)).set k (rowV blk cap N s)).congr fun i hi=> ?_;unfold rowV swpN;by_cases e:i=k
  ·subst e;rw [upd_same,if_neg (fun e=> hsk e.symm),if_pos rfl,if_neg (fun e=> hsk e.symm),if_pos rfl]
  ·rw [upd_ne _ _ e];by_cases e2:i=s
   ·subst e2;rw [upd_same,if_pos rfl,if_pos rfl]
   ·rw [upd_ne _ _ e2,if_neg e2,if_neg e,if_neg e2,if_neg e]
 ·obtain ⟨j,hj,e1,e2,e3,_⟩:=key i hi;rw [e1,e2,e3];exact ((h.row j hj).other (h.off j hj) _).other (h.off j hj) _
 ·obtain ⟨i',hi',e1,_,_,c1⟩:=key i hi;obtain ⟨j',hj',e2,_,_,c2⟩:=key j hj;rw [e1,e2];exact h.apart i' j' hi' hj' (by omega)
 ·obtain ⟨j,hj,e1,_⟩:=key i hi;rw [e1];exact h.off j hj
 ·rw [hsz];obtain ⟨h1,h2,h3⟩:=h.av B hB;exact ⟨h1,h2,fun i hi=> by obtain ⟨j,hj,e1,_⟩:=key i hi;rw [e1];exact h3 j hj⟩
theorem EM.kpg (h:EM w base g R N blk cap a avs) (s:Nat) (u:Value):Kp w (w.setCell ⟨g,s,none⟩ u) avs:=fun B hB=> by
 obtain ⟨_,h2,_⟩:=h.av B hB;exact Below.heap_setCell w ⟨g,s,none⟩ u B (fun e=> h2 e.symm)
end
end
section
open Go.RowKit
def Stp (w:World) (base g R N:Nat) (a':Nat→Nat→Int) (avs:List Nat) (r:Ending) (w':World):Prop:=
 (∃t,r= .returned t)∧(∃blk' cap',EM w' base g R N blk' cap' a' avs)∧Kp w w' avs∧∀w0,Ex w0 w→w0.heap.size≤base→Ex w0 w'
theorem eswp_any (w:World) {base g R N:Nat} {blk cap:Nat→Nat} {a:Nat→Nat→Int} {avs:List Nat} (h:EM w base g R N blk cap a avs) (Bk Ba:Nat) (s k:Nat) (hs:s < R) (hk:k < R) (hsk:s≠k) (hBk:Bk∈avs) (hBa:Ba∈avs)
  (ck:w.cell? ⟨Bk,0,none⟩=some (.int .i64 k)) (ca:w.cell? ⟨Ba,0,none⟩=some (.int .i64 s)):
  Calls Tryz.prog 179 #[.slice (some ⟨g,0,none⟩) R R,.pointer (some ⟨Bk,0,none⟩),.pointer (some ⟨Ba,0,none⟩)] w (Stp w base g R N (swpA a s k) avs):=by
 have c1:=h.cell hs;have c2:=h.cell hk;have f1:=h.arr.frz s;have f2:=h.arr.frz k;have i1:(0:Int)≤(s:Int):=by omega
 have i2:(s:Int) < (R:Int):=by omega
 have i3:(0:Int)≤(k:Int):=by omega
 have i4:(k:Int) < (R:Int):=by omega
 have n1:¬s=k:=hsk;have n2:¬k=s:=fun e=> hsk e.symm;have ck2:(w.setCell ⟨g,s,none⟩ (.slice (some ⟨blk k,0,none⟩) N (cap k))).cell? ⟨Bk,0,none⟩=some (.int .i64 k):=by rw [cell_setCell_ne (h.av Bk hBk).2.1];exact ck
 have ca2:(w.setCell ⟨g,s,none⟩ (.slice (some ⟨blk k,0,none⟩) N (cap k))).cell? ⟨Ba,0,none⟩=some (.int .i64 s):=by rw [cell_setCell_ne (h.av Ba hBa).2.1];exact ca
 have ck3:(w.setCell ⟨g,k,none⟩ (.slice (some ⟨blk s,0,none⟩) N (cap s))).cell? ⟨Bk,0,none⟩=some (.int .i64 k):=by rw [cell_setCell_ne (h.av Bk hBk).2.1];exact ck
 have ca3:(w.setCell ⟨g,k,none⟩ (.slice (some ⟨blk s,0,none⟩) N (cap s))).cell? ⟨Ba,0,none⟩=some (.int .i64 s):=by rw [cell_setCell_ne (h.av Ba hBa).2.1];exact ca
 have HE:=hid_ (h.ex (Ex.refl w).drew);have HS:=hid_ (HE.out.swp hs hk hsk);have HM:=hid_ (h.ex (Ex.refl w).drew |>.arr.set s (rowV blk cap N k));have HK2:=hid_ (show Kp (w.drew.setCell ⟨g,s,none⟩ (rowV blk cap N k)) ((w.drew.setCell ⟨g,s,none⟩ (rowV blk cap N k)).setCell ⟨g,k,none⟩ (rowV blk cap N s)) avs from fun B hB=> Below.heap_setCell _ ⟨g,k,none⟩ _ B (fun e=> (h.av B hB).2.1 e.symm));have HX2:=hid_ (show ∀w0,Ex w0 w→w0.heap.size≤base→Ex w0 ((w.drew.setCell ⟨g,s,none⟩ (rowV blk cap N k)).setCell ⟨g,k,none⟩ (rowV blk cap N s)) from fun w0 hx hb=> HM.out.exSet hb (HE.out.arr.exSet hb hx.drew s _) k _);have HB:=hid_ h;have HR:=hid_ (show s < R∧k < R∧s≠k from ⟨hs,hk,hsk⟩);clear h hs hk hsk;go_enter Tryz.func179,Tryz.ntmps179
 go_wp2_with fail
 go_region
 all_goals
  go_wp2_with fail
  go_end0
  refine ⟨⟨_,rfl⟩,⟨_,_,HS.out⟩,?_,fun w0 hx hb=> ?_⟩
  ·exact ((HB.out.kpx (Ex.refl w).drew).trans (HE.out.kpg s (rowV blk cap N k))).trans (HK2.out)
  ·exact (HX2.out w0 hx hb)
theorem escl_any {p m:Nat} {ml:List Int} {b x0:Nat} (w0 w:World) (hg:GFat w0 b p m ml x0) (hx0:Ex w0 w) {base g R N:Nat} {blk cap:Nat→Nat} {a:Nat→Nat→Int} {avs:List Nat} (h:EM w base g R N blk cap a avs) (hb:w0.heap.size≤base) (hN:N≤1000) (Bg Bi Ba:Nat) (s:Nat) (inv:Int) (hs:s < R) (hBg:Bg∈avs) (hBi:Bi∈avs) (hBa:Ba∈avs)
  (cg:w.cell? ⟨Bg,0,none⟩=some (.pointer (some ⟨b,0,none⟩))) (ci:w.cell? ⟨Bi,0,none⟩=some (.int .i64 inv)) (ca:w.cell? ⟨Ba,0,none⟩=some (.int .i64 s)):
  Calls Tryz.prog 180 #[.slice (some ⟨g,0,none⟩) R R,.pointer (some ⟨Bg,0,none⟩),.pointer (some ⟨Bi,0,none⟩),.pointer (some ⟨Ba,0,none⟩)] w (Stp w base g R N (upd a s (sclF p m ml (kin (p ^ m) inv) (a s))) avs):=by
 have c1:=h.cell hs;have f1:=h.arr.frz s;have i1:(0:Int)≤(s:Int):=by omega
 have i2:(s:Int) < (R:Int):=by omega
 obtain ⟨k1,k2⟩:=(h.row s hs).caps;unfold maxLen at k2;have HB:=hid_ h;have HR:=hid_ hs;have HX0:=hid_ hx0;have HBB:=hid_ hb;have HSC:=hid_ (fun w' (hx:Ex w w')=> Scale_any w' (hg.ex (hx0.trans hx)) N (a s) inv (.slice (some ⟨blk s,0,none⟩) N (cap s)) (((h.row s hs).isl).ex hx) hN);have HCA:=hid_ ca;have HF1:=hid_ f1;have HC1:=hid_ c1;clear h hs hg hx0 hb;go_enter Tryz.func180,Tryz.ntmps180
 go_wp2_with fail
 have E0:Ex w w.drew:=(Ex.refl w).drew
 go_region_law
  ((first
      | (go_simp;go_at_call 152;(with_reducible refine (HSC.out _ E0).mono ?_);rintro e wx ⟨gg,rfl,hown,hy⟩;have hca2:=hy.cell (E0.cell HCA.out);have hc2:=hy.cell (E0.cell HC1.out);have hf2:=hy.frz (E0.cell HC1.out) (E0.frz HC1.out HF1.out))))
 all_goals
  have EX:=hid_ (E0.trans hy);have HBX:=hid_ (HB.out.ex EX.out);have hlt:=hown.lt.1;have HPUT:=hid_ (HBX.out.put HR.out (hown.mono (b':=base) (by have:=HB.out.arr.lt;have:=E0.size;omega):OwnC wx base 3 gg N N _) (fun i hi _ e=> by have:=(HB.out.row i hi).lt.2;have:=E0.size;omega) (fun e=> by have:=HB.out.arr.lt.2;have:=E0.size;omega) (fun B hB e=> by have:=(HB.out.av B hB).1;have:=E0.size;omega));have HKP:=hid_ ((HB.out.kpx EX.out).trans (HBX.out.kpg s (.slice (some ⟨gg,0,none⟩) N N)));have HX2:=hid_ (show ∀w0,Ex w0 w→w0.heap.size≤base→Ex w0 (wx.setCell ⟨g,s,none⟩ (.slice (some ⟨gg,0,none⟩) N N)) from fun w0 hx hb=> HBX.out.arr.exSet hb (hx.trans EX.out) s _);clear hown hy hca2 hc2 hf2 hlt E0 ca c1 f1;go_wp2_with fail
  go_end0
  exact ⟨⟨_,rfl⟩,⟨_,_,HPUT.out⟩,HKP.out,HX2.out⟩
end
end Go.Proofs.YtgdmlmhpineibaaGreat
