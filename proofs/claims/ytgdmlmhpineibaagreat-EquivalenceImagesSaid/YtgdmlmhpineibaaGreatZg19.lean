/- Walks of matrix.clone and matrix.canon. -/
import Derived.Test.YtgdmlmhpineibaaGreatZg08
import Derived.Test.YtgdmlmhpineibaaGreatZg17
import Derived.Test.YtgdmlmhpineibaaGreatZg18
namespace Go.Proofs.YtgdmlmhpineibaaGreat
set_option linter.unusedVariables false
set_option linter.unusedSimpArgs false
set_option maxRecDepth 100000
set_option maxHeartbeats 4000000
section
open Go.RowKit
theorem infoInts:(Tryz.prog.info? 22).map (fun i=> (i.zero,i.size,i.bytes))=some (some (.slice none 0 0),1,24):=by kernel_rfl
def rowsF (rows:List (List Int)) (i j:Nat):Int:=(rows.getD i []).getD j 0
structure EK (w0 w:World) (g R N:Nat) (blk cap:Nat→Nat) (a:Nat→Nat→Int) (k:Nat):Prop where
 arr:Own w w0.heap.size 22 g R (fun i=> if i < k then rowV blk cap N i else .slice none 0 0)
 row:∀i,i < k→OwnC w w0.heap.size 3 (blk i) N (cap i) (iv (a i))
 apart:∀i j,i < k→j < k→i≠j→blk i≠blk j
 off:∀i,i < k→blk i≠g
 ex:Ex w0 w
theorem EK.later {w0 w w':World} {g R N:Nat} {blk cap:Nat→Nat} {a:Nat→Nat→Int} {k:Nat} (h:EK w0 w g R N blk cap a k) (hx:Ex w w'):EK w0 w' g R N blk cap a k:=
 ⟨h.arr.ex hx,fun i hi=> (h.row i hi).ex hx,h.apart,h.off,h.ex.trans hx⟩
theorem EK.put {w0 w:World} {g R N:Nat} {blk cap:Nat→Nat} {a:Nat→Nat→Int} {k:Nat} (h:EK w0 w g R N blk cap a k) {w':World} (hx:Ex w w') {nb nc:Nat} (hn:OwnC w' w.heap.size 3 nb N nc (iv (a k))) (hw:w0.heap.size≤w.heap.size):
  EK w0 (w'.setCell ⟨g,k,none⟩ (.slice (some ⟨nb,0,none⟩) N nc)) g R N (upd blk k nb) (upd cap k nc) a (k + 1):=by
 have h1:=h.later hx;have hgl:=h.arr.lt.2;have hnl:=hn.lt.1;have hng:nb≠g:=by omega
 refine ⟨(h1.arr.set k _).congr fun i hi=> ?_,fun i hi=> ?_,fun i j hi hj hij=> ?_,fun i hi=> ?_,h1.arr.exSet (Nat.le_refl _) h1.ex k _⟩
 ·by_cases e:i=k
  ·subst e;rw [upd_same];show _=(if i < i + 1 then rowV (upd blk i nb) (upd cap i nc) N i else .slice none 0 0)
   rw [if_pos (by omega)];unfold rowV;rw [upd_same,upd_same]
  ·rw [upd_ne _ _ e];show (if i < k then rowV blk cap N i else .slice none 0 0)=(if i < k + 1 then rowV (upd blk k nb) (upd cap k nc) N i else .slice none 0 0)
   by_cases h:i < k
   ·rw [if_pos h,if_pos (by omega)];unfold rowV;rw [upd_ne _ _ e,upd_ne _ _ e]
   ·rw [if_neg h,if_neg (by omega)]
 ·by_cases e:i=k
  ·subst e;rw [upd_same,upd_same];exact (show OwnC w' w0.heap.size 3 nb N nc (iv (a i)) from ownsRow_mono hn hw).other hng _
  ·rw [upd_ne _ _ e,upd_ne _ _ e];exact (h1.row i (by omega)).other (h.off i (by omega)) _
 ·by_cases e:i=k
  ·subst e;rw [upd_same,upd_ne _ _ (fun e=> hij e.symm)];have:=(h.row j (by omega)).lt.2;omega
  ·by_cases e2:j=k
   ·subst e2;rw [upd_same,upd_ne _ _ e];have:=(h.row i (by omega)).lt.2;omega
   ·rw [upd_ne _ _ e,upd_ne _ _ e2];exact h.apart i j (by omega) (by omega) hij
 ·by_cases e:i=k
  ·subst e;rw [upd_same];exact hng
  ·rw [upd_ne _ _ e];exact h.off i (by omega)
theorem EK.done {w0 w:World} {g R N:Nat} {blk cap:Nat→Nat} {a:Nat→Nat→Int} (h:EK w0 w g R N blk cap a R):EM w w0.heap.size g R N blk cap a []:=
 ⟨h.arr.congr fun i hi=> by show (if i < R then rowV blk cap N i else .slice none 0 0)=_;rw [if_pos hi],h.row,h.apart,h.off,fun B hB=> by cases hB⟩
theorem clone_any (w:World) (N R:Nat) (rows:List (List Int)) (v:Value) (hv:MSl w v rows) (hR:rows.length=R) (hR2:R≤256) (hN1:1≤N) (hN:N≤256) (hr:∀(i:Nat) (r:List Int),rows[i]?=some r→r.length=N):
  Calls Tryz.prog 158 #[v] w fun r w'=> ∃g blk cap,r= .returned (.slice (some ⟨g,0,none⟩) R R)∧EM w' w.heap.size g R N blk cap (rowsF rows) []∧Ex w w':=by
 obtain ⟨za,zc,rfl,z1,z2,z3⟩:=hv.open;rw [hR] at z1 z3 ⊢;unfold maxLen at z2;have Z3:=hid_ z3;have HRN:=hid_ hr;have HRR:=hid_ hR;clear z3 hr hv hR;go_enter Tryz.func158,Tryz.ntmps158
 go_wp2_with (at_make;refine wpList_make_arr _ rfl _ _ 45 rfl 22 (.slice none 0 0) 24 Tryz.underlying45 infoInts rfl _ R rfl rfl rfl (by omega) (by unfold maxLen;omega) ?_)
 intro w3 hown hx3;obtain ⟨g,hgg⟩:∃g,w.heap.size=g:=⟨_,rfl⟩;have HSZ:=hid_ hgg;have HK0:=hid_ (show EK w w3 w.heap.size R N (fun _=> 0) (fun _=> 0) (rowsF rows) 0 from ⟨hown.congr fun i hi=> by simp,fun i hi=> by omega,fun i j hi=> by omega,fun i hi=> by omega,hx3⟩);rw [hgg] at HK0
 try simp only [hgg]
 clear hown hx3 hgg;go_wp2_with fail
 go_loopw [11] (fun k' wr=> ∃(k:Nat) (blk cap:Nat→Nat),k≤R∧k'= .int .i64 k∧Hid (EK w wr g R N blk cap (rowsF rows) k)) (fun k' _=> R - (intOf k').toNat)
 case atStart=> exact ⟨0,_,_,by omega,rfl,HK0⟩
 case round=>
  clear HK0;obtain ⟨k,blk,cap,hk,rfl,hek⟩:=hrel;by_cases hkR:k < R
  ·obtain ⟨zb,zo,rfl,hzc⟩:=Z3.out (by omega);obtain ⟨r,hrr⟩:∃r,rows[k]?=some r:=⟨_,List.getElem?_eq_getElem (by rw [HRR.out];exact hkR)⟩;obtain ⟨uz,c1,huz⟩:=hzc k r hrr;have c1:=hek.out.ex.cell c1;have hrl:=HRN.out k r hrr;have HC:=hid_ (Clone_any wr r uz (huz.ex hek.out.ex) (by omega) (by omega));obtain ⟨ua,uc,rfl,_,u2,_⟩:=huz.open;rw [hrl] at HC c1;have i1:(0:Int)≤(k:Int):=by omega
   have i2:(k:Int) < (R:Int):=by omega
   have HRF:=hid_ (show (fun j=> r.getD j 0)=rowsF rows k from by
    funext j;unfold rowsF;rw [List.getD_eq_getElem?_getD (l:=rows),hrr];rfl)
   have hcg:=hek.out.arr.cell hkR;have hfg:=hek.out.arr.frz k;clear hzc huz hrr hrl;go_wp2_with (go_at_call 66;refine HC.out.mono ?_;rintro e w4 ⟨gg,cc,rfl,hown,hx4⟩;have hcg2:=hx4.cell hcg;have hfg2:=hx4.frz hcg hfg)
   rw [HRF.out] at hown;have HP:=hid_ (hek.out.put hx4 hown hek.out.ex.size);go_roundw
   case rel=> first | exact ⟨k + 1,_,_,by omega,by go_num,HP⟩ | ((repeat apply Exists.intro);exact ⟨⟨k + 1,_,_,by omega,by go_num,HP⟩,rfl⟩)
   case measure=> simp [intOf];omega
  ·obtain rfl:R=k:=by omega
   have HE:=hid_ hek.out.done;have HX:=hid_ hek.out.ex;clear hek;go_wp2_with fail
   go_ret;exact ⟨g,blk,cap,rfl,HE.out,HX.out⟩
theorem EM.low {w:World} {base g R N:Nat} {blk cap:Nat→Nat} {a:Nat→Nat→Int} (h:EM w base g R N blk cap a []) {A:Addr} (hA:A.block < base) (u:Value):EM (w.setCell A u) base g R N blk cap a []:=
 ⟨h.arr.other (by have:=h.arr.lt;omega) u,fun i hi=> (h.row i hi).other (by have:=(h.row i hi).lt;omega) u,h.apart,h.off,fun B hB=> by cases hB⟩
def rowsL (N k:Nat) (a:Nat→Nat→Int):List (List Int):=(List.range k).map fun i=> il N (a i)
theorem rowsL_get {N k i:Nat} {a:Nat→Nat→Int} (h:i < k):(rowsL N k a)[i]?=some (il N (a i)):=by unfold rowsL;simp [h]
theorem rowsL_len (N k:Nat) (a:Nat→Nat→Int):(rowsL N k a).length=k:=by unfold rowsL;simp
theorem EM.msl {w:World} {base g R N k:Nat} {blk cap:Nat→Nat} {a:Nat→Nat→Int} {avs:List Nat} (h:EM w base g R N blk cap a avs) (hk:k≤R) (hR:R≤256):MSl w (.slice (some ⟨g,0,none⟩) k k) (rowsL N k a):=by
 refine ⟨(List.range k).map fun i=> rowV blk cap N i,?_,fun i r u h1 h2=> ?_⟩
 ·rw [rowsL_len];refine ⟨by simp,some ⟨g,0,none⟩,k,rfl,Nat.le_refl _,by unfold maxLen;omega,fun h0=> ⟨g,0,rfl,fun i z hz=> ?_⟩⟩;have hi:i < k:=by have:=(List.getElem?_eq_some_iff.1 hz).1;simpa using this
  simp [hi] at hz;subst hz;rw [Nat.zero_add];exact h.cell (by omega)
 ·have hi:i < k:=by have:=(List.getElem?_eq_some_iff.1 h1).1;rw [rowsL_len] at this;exact this
  rw [rowsL_get hi] at h1;injection h1 with h1;subst h1;simp [hi] at h2;subst h2;exact (h.row i (by omega)).isl
theorem canon_any2 {p m:Nat} {ml:List Int} {b x0:Nat} (w:World) (hg:GFat w b p m ml x0) (hx1:1≤x0) (hx2:x0 < p ^ m) (N R:Nat) (rows:List (List Int)) (v:Value) (hv:MSl w v rows) (hR:rows.length=R) (hR2:R≤256) (hN1:1≤N) (hN:N≤256) (hr:∀(i:Nat) (r:List Int),rows[i]?=some r→r.length=N∧entS (p ^ m) r=0):
  Calls Tryz.prog 125 #[.pointer (some ⟨b,0,none⟩),v,.int .i64 N] w fun r w'=> ∃piv pv rv a',r= .returned (.tuple #[rv,pv])∧ElO p m ml N R (rowsF rows) a' piv∧MSl w' rv (rowsL N piv.length a')∧ISl w' pv (pI piv)∧Ex w w'∧∃g blk cap,rv= .slice (some ⟨g,0,none⟩) piv.length piv.length∧EM w' w.heap.size g R N blk cap a' []∧∀B,pv.ownBlock=some B→w.heap.size≤B:=by
 have hrng:Rng p m R N (rowsF rows):=fun i hi j hj=> by
  obtain ⟨r,hrr⟩:∃r,rows[i]?=some r:=⟨_,List.getElem?_eq_getElem (by omega)⟩;obtain ⟨h1,h2⟩:=hr i r hrr;have e:rowsF rows i j=r.getD j 0:=by unfold rowsF;rw [List.getD_eq_getElem?_getD (l:=rows),hrr];rfl
  rw [e];refine entS_rng h2 _ ?_;rw [List.getD_eq_getElem?_getD,List.getElem?_eq_getElem (by omega)];exact List.getElem_mem _
 have HC:=hid_ (clone_any w N R rows v hv hR hR2 hN1 hN fun i r h=> (hr i r h).1);have HG:=hid_ hg;have HRG:=hid_ hrng;clear hv hr hrng hg;go_enter Tryz.func125,Tryz.ntmps125
 go_wp2_with (go_at_call 158;refine HC.out.mono ?_;rintro e w1 ⟨g,blk,cap,rfl,hem,hx1_⟩)
 refine (elim_any w w1 HG.out hx1 hx2 hx1_ hem (Nat.le_refl _) hN hR2 HRG.out).mono ?_;rintro e w2 ⟨piv,pv,det,blk',cap',a',rfl,hem2,hel,hpv,hx2_,hpb⟩;have HEM:=hid_ hem2;have HEL:=hid_ hel;have HX:=hid_ hx2_;have HPV:=hid_ hpv;have HPB:=hid_ hpb;have hk:piv.length≤R:=by obtain ⟨c,_,h,_⟩:=hel;exact h.le
 obtain ⟨pa,pc,rfl,_,p2_,_⟩:=hpv.open;rw [pI_len] at HPV HPB ⊢;clear hem hem2 hel hpv hx1_ hx2_ HC hpb;have k1:(0:Int)≤(piv.length:Int):=by omega
 have k2:(piv.length:Int)≤(R:Int):=by omega
 have HMS:=hid_ (HEM.out.msl hk hR2);go_wp2_with fail
 go_ret2;exact ⟨piv,_,_,a',rfl,HEL.out,HMS.out,HPV.out,HX.out,g,blk',cap',rfl,HEM.out,HPB.out⟩
end
section
open Go.RowKit
structure EMR (w:World) (base g R N cap:Nat) (vals:Nat→Value) (a:Nat→Nat→Int):Prop where
 o:OwnC w base 22 g R cap vals
 row:∀i,i < R→w.ownsRow base 3 1 (vals i) N (ints (il N (a i)))
 ap:∀i,i < R→(vals i).ownBlock≠some g
section
variable {w w':World} {base g R N cap:Nat} {vals:Nat→Value} {a:Nat→Nat→Int}
theorem EMR.ex (h:EMR w base g R N cap vals a) (hx:Ex w w'):EMR w' base g R N cap vals a:=
 ⟨h.o.ex hx,fun i hi=> ownsRow_ex (h.row i hi) hx,h.ap⟩
theorem EMR.set (h:EMR w base g R N cap vals a) {i:Nat} {u:Value} {f:Nat→Int} (hu:w.ownsRow base 3 1 u N (ints (il N f))) (hg:u.ownBlock≠some g):EMR (w.setCell ⟨g,i,none⟩ u) base g R N cap (upd vals i u) (upd a i f) where
 o:=h.o.set i u
 row:=fun j hj=> by
  by_cases e:j=i
  ·subst e;rw [upd_same,upd_same];exact ownsRow_setCell_ne hu hg u
  ·rw [upd_ne _ _ e,upd_ne _ _ e];exact ownsRow_setCell_ne (h.row j hj) (h.ap j hj) u
 ap:=fun j hj=> by
  by_cases e:j=i
  ·subst e;rw [upd_same];exact hg
  ·rw [upd_ne _ _ e];exact h.ap j hj
theorem swpA_eq (a:Nat→Nat→Int) (s k:Nat):upd (upd a s (a k)) k (a s)=swpA a s k:=by
 funext i;unfold upd swpA;by_cases e1:i=k
 ·subst e1;rw [if_pos rfl];by_cases e2:i=s
  ·subst e2;rw [if_pos rfl]
  ·rw [if_neg e2,if_pos rfl]
 ·rw [if_neg e1,if_neg e1]
theorem EMR.swp (h:EMR w base g R N cap vals a) {s k:Nat} (hs:s < R) (hk:k < R):EMR ((w.setCell ⟨g,s,none⟩ (vals k)).setCell ⟨g,k,none⟩ (vals s)) base g R N cap (upd (upd vals s (vals k)) k (vals s)) (swpA a s k):=by
 have h1:=h.set (i:=s) (h.row k hk) (h.ap k hk);have h2:=h1.set (i:=k) (u:=vals s) (f:=a s) (ownsRow_setCell_ne (h.row s hs) (h.ap s hs) _) (h.ap s hs);rw [swpA_eq] at h2;exact h2
theorem EMR.exSet {w0:World} (h:EMR w base g R N cap vals a) (hb:w0.heap.size≤base) (hx:Ex w0 w) (i:Nat) (u:Value):Ex w0 (w.setCell ⟨g,i,none⟩ u):=h.o.exSet hb hx i u
theorem EMR.at (h:EMR w base g R N cap vals a) (hN:1≤N) {i c:Nat} (hi:i < R) (hc:c < N):∃gi ci,vals i= .slice (some ⟨gi,0,none⟩) N ci∧w.cell? ⟨gi,c,none⟩=some (.int .i64 (a i c))∧N≤ci∧ci≤maxLen:=by
 have hr:=h.row i hi;obtain ⟨gi,ci,e,h1,h2⟩:=own_open hr hN;refine ⟨gi,ci,e,?_,h1,h2⟩;rw [e,ints_il] at hr;have:=OwnC.cell (show OwnC w base 3 gi N ci (iv (a i)) from hr) hc;exact this
theorem EMR.isl (h:EMR w base g R N cap vals a) {i:Nat} (hi:i < R):ISl w (vals i) (il N (a i)):=by
 have:=Sl.own (h.row i hi);unfold ISl;rw [il_len];exact this
def MSlF (b0:Nat) (w:World) (v:Value) (rows:List (List Int)):Prop:=∀w':World,(∀B,b0≤B→B < w.heap.size→w'.heap[B]?=w.heap[B]?)→MSl w' v rows
theorem MSlF.msl {b0:Nat} {w:World} {v:Value} {rows:List (List Int)} (h:MSlF b0 w v rows):MSl w v rows:=h w fun _ _ _=> rfl
theorem MSlF.low {b0:Nat} {w:World} {v:Value} {rows:List (List Int)} (h:MSlF b0 w v rows) {A:Addr} (hA:A.block < b0) (u:Value):MSlF b0 (w.setCell A u) v rows:=fun w' hw'=> h w' fun B h1 h2=> by
 rw [hw' B h1 (by simpa using h2)];exact Below.heap_setCell w A u B (by omega)
theorem MSlF.ex {b0:Nat} {w w2:World} {v:Value} {rows:List (List Int)} (h:MSlF b0 w v rows) (hx:Ex w w2):MSlF b0 w2 v rows:=fun w' hw'=> h w' fun B h1 h2=> by
 rw [hw' B h1 (by have:=hx.size;omega)];exact hx.block B h2
theorem MSlF.mono {b0 b1:Nat} {w:World} {v:Value} {rows:List (List Int)} (h:MSlF b0 w v rows) (hb:b1≤b0):MSlF b1 w v rows:=fun w' hw'=> h w' fun B h1 h2=> hw' B (by omega) h2
theorem MSlF.nil {b0:Nat} {w:World} {a:Option Addr} {c:Nat} (hc:c≤maxLen):MSlF b0 w (.slice a 0 c) []:=fun w' _=> ⟨[],⟨rfl,a,c,rfl,Nat.zero_le _,hc,fun h=> absurd h (by simp)⟩,fun i r u h1 _=> by simp at h1⟩
theorem cell_heap {w w':World} {B o:Nat} {v:Value} (h:w'.heap[B]?=w.heap[B]?) (hc:w.cell? ⟨B,o,none⟩=some v):w'.cell? ⟨B,o,none⟩=some v:=by
 simp only [World.cell?] at hc ⊢;rw [h];exact hc
theorem EMR.mslF (h:EMR w base g R N cap vals a) {b0:Nat} (hb:b0≤base) {k:Nat} (hk:k≤R):MSlF b0 w (.slice (some ⟨g,0,none⟩) k cap) (rowsL N k a):=fun w' hw'=> by
 obtain ⟨c1,c2⟩:=h.o.caps;refine ⟨vs k vals,?_,fun i r u h1 h2=> ?_⟩
 ·rw [rowsL_len];refine ⟨by rw [vs_length,Nat.mul_one],some ⟨g,0,none⟩,cap,rfl,by omega,c2,fun hn=> ⟨g,0,rfl,fun j u hu=> ?_⟩⟩;have hj:j < k:=by have:=(List.getElem?_eq_some_iff.1 hu).1;rw [vs_length] at this;exact this
  rw [vs_get hj] at hu;injection hu with hu;subst hu;rw [Nat.zero_add];have hc:=h.o.cell (j:=j) (by omega);exact cell_heap (hw' g (by have:=h.o.lt.1;omega) (World.block_lt_of_cell? _ _ hc)) hc
 ·have hi:i < k:=by have:=(List.getElem?_eq_some_iff.1 h1).1;rw [rowsL_len] at this;exact this
  rw [rowsL_get hi] at h1;rw [vs_get hi] at h2;injection h1 with h1;injection h2 with h2;subst h1 h2;have hr:=h.row i (by omega);obtain ⟨g1,c,cc,g2,g3,g4,g5⟩:=h.isl (i:=i) (by omega);refine ⟨g1,c,cc,g2,g3,g4,fun hn=> ?_⟩;obtain ⟨b,o,rfl,g7⟩:=g5 hn;refine ⟨b,o,rfl,fun j u hu=> ?_⟩;have hc:=g7 j u hu;exact cell_heap (hw' b (by have:=(hr.lt b (by rw [g2];rfl)).1;omega) (World.block_lt_of_cell? _ _ hc)) hc
theorem EMR.of {cv:Value} {vl:List Value} (h:MRows w base cv (rowsL N R a) vl) (hR:1≤R):∃g cap,cv= .slice (some ⟨g,0,none⟩) R cap∧EMR w base g R N cap (fun i=> vl.getD i undef) a:=by
 have hl:vl.length=R:=by rw [h.len,rowsL_len]
 have hvs:vl=vs R (fun i=> vl.getD i undef):=by
  refine List.ext_getElem? fun j=> ?_;by_cases hj:j < R
  ·rw [vs_get hj,List.getD_eq_getElem?_getD,List.getElem?_eq_getElem (by omega)];rfl
  ·rw [List.getElem?_eq_none (by omega),List.getElem?_eq_none (by rw [vs_length];omega)]
 have hc:=h.cvo;rw [rowsL_len,hvs] at hc;obtain ⟨g,cap,e,ho⟩:=ownC_of hc hR;have hv:∀i,i < R→vl[i]?=some (vl.getD i undef):=fun i hi=> by
  rw [List.getD_eq_getElem?_getD,List.getElem?_eq_getElem (by omega)];rfl
 refine ⟨g,cap,e,ho,fun i hi=> ?_,fun i hi e2=> ?_⟩
 ·have:=h.row i _ _ (rowsL_get hi) (hv i hi);rw [il_len] at this;exact this
 ·have:=h.apart _ (List.mem_of_getElem? (hv i hi));rcases this with h1 | h1
  ·rw [h1] at e2;cases e2
  ·rw [e,e2] at h1;exact h1 rfl
structure ERS (w1 wr:World) (base g R N cap:Nat) (vals:Nat→Value) (a:Nat→Nat→Int) (piv:List Nat) (pv:Value):Prop where
 em:EMR wr base g R N cap vals a
 po:wr.ownsRow base 3 1 pv piv.length (ints (pI piv))
 pg:pv.ownBlock≠some g
 pa:∀i,i < R→Aprt (vals i) pv
 hb:w1.heap.size≤base
 ex:Ex w1 wr
variable {w1 wr:World} {piv:List Nat} {pv pv' u:Value} {f:Nat→Int}
theorem ERS.later (h:ERS w1 wr base g R N cap vals a piv pv) (hx:Ex wr w'):ERS w1 w' base g R N cap vals a piv pv:=
 ⟨h.em.ex hx,ownsRow_ex h.po hx,h.pg,h.pa,h.hb,h.ex.trans hx⟩
theorem ERS.fresh (h:ERS w1 wr base g R N cap vals a piv pv) {b' n:Nat} {e:TypeId} {xs:List Value} (hu:w'.ownsRow wr.heap.size e 1 u n xs):u.ownBlock≠some g∧Aprt u pv:=by
 have hg:=h.em.o.lt.2;refine ⟨fun e2=> ?_,?_⟩
 ·have:=(hu.lt g e2).1;omega
 ·cases e2:u.ownBlock with
  | none=> exact .inl e2
  | some B=>
   right;rw [e2];intro e3;have h1:=(h.po.lt B e3.symm).2;have h2:=(hu.lt B e2).1;omega
theorem ERS.set (h:ERS w1 wr base g R N cap vals a piv pv) {i:Nat} (hu:wr.ownsRow base 3 1 u N (ints (il N f))) (hg:u.ownBlock≠some g) (ha:Aprt u pv):ERS w1 (wr.setCell ⟨g,i,none⟩ u) base g R N cap (upd vals i u) (upd a i f) piv pv where
 em:=h.em.set hu hg
 po:=ownsRow_setCell_ne h.po h.pg u
 pg:=h.pg
 pa:=fun j hj=> by
  by_cases e:j=i
  ·subst e;rw [upd_same];exact ha
  ·rw [upd_ne _ _ e];exact h.pa j hj
 hb:=h.hb
 ex:=h.em.exSet h.hb h.ex i u
theorem ERS.swp (h:ERS w1 wr base g R N cap vals a piv pv) {s k:Nat} (hs:s < R) (hk:k < R):ERS w1 ((wr.setCell ⟨g,s,none⟩ (vals k)).setCell ⟨g,k,none⟩ (vals s)) base g R N cap (upd (upd vals s (vals k)) k (vals s)) (swpA a s k) piv pv where
 em:=h.em.swp hs hk
 po:=ownsRow_setCell_ne (ownsRow_setCell_ne h.po h.pg _) h.pg _
 pg:=h.pg
 pa:=fun j hj=> by
  by_cases e:j=k
  ·subst e;rw [upd_same];exact h.pa s hs
  ·rw [upd_ne _ _ e];by_cases e:j=s
   ·subst e;rw [upd_same];exact h.pa k hk
   ·rw [upd_ne _ _ e];exact h.pa j hj
 hb:=h.hb
 ex:=(h.em.set (i:=s) (h.em.row k hk) (h.em.ap k hk)).exSet h.hb (h.em.exSet h.hb h.ex s _) k _
theorem ERS.app (h:ERS w1 wr base g R N cap vals a piv pv) {c:Nat} (ha:Appd wr w' base 3 1 pv pv' piv.length (ints (pI piv)) [.int .i64 (c:Int)]):ERS w1 w' base g R N cap vals a (piv ++ [c]) pv':=by
 have ho:Aprt (.slice (some ⟨g,0,none⟩) R cap) pv:= .inr fun e=> h.pg e.symm;have h1:=ha.row h.em.o ho;have h2:=fun i hi=> ha.row (h.em.row i hi) (h.pa i hi);refine ⟨⟨h1.1,fun i hi=> (h2 i hi).1,h.em.ap⟩,?_,?_,fun i hi=> (h2 i hi).2,h.hb,ha.ex h.ex h.hb⟩
 ·have:=ha.own;rw [List.length_append];unfold pI at *;rw [List.map_append];unfold ints at *;rw [List.map_append];exact this
 ·rcases h1.2 with h3 | h3
  ·cases h3
  ·exact fun e=> h3 e.symm
end
end
end Go.Proofs.YtgdmlmhpineibaaGreat
