/- The calls of awake of chapter 31, at their arguments. -/
import Derived.Test.YtgdmlmhpineibaaGreatZg45
import Derived.Test.YtgdmlmhpineibaaGreatZg46
namespace Go.Proofs.YtgdmlmhpineibaaGreat
set_option linter.unusedVariables false
set_option linter.unusedSimpArgs false
open Go.RowKit
theorem isl_lit (w:World) (l:List Int) (cs:Array Value) (t:TypeId) (h:(ints l).toArray=cs) {B n:Nat} (hB:w.heap.size=B) (hn:l.length=n) (hl:l.length≤1000):ISl (w.alloc (.cells cs t)) (.slice (some ⟨B,0,none⟩) n n) l:=by
 subst hB hn;subst h;exact isl_made w l t hl
theorem msl_lit (w:World) (rows:List (List Int)) (us:List Value) (cs:Array Value) (t:TypeId) (hc:us.toArray=cs) (hl:us.length=rows.length) (h:∀(i:Nat) (r:List Int) (u:Value),rows[i]?=some r→us[i]?=some u→ISl w u r) {B n:Nat} (hB:w.heap.size=B) (hn:rows.length=n) (hl2:rows.length≤1000):
  MSl (w.alloc (.cells cs t)) (.slice (some ⟨B,0,none⟩) n n) rows:=by
 subst hB hn hc;refine ⟨us,⟨by rw [hl,Nat.mul_one],some ⟨w.heap.size,0,none⟩,rows.length,rfl,Nat.le_refl _,by unfold maxLen;omega,fun _=> ⟨_,0,rfl,fun j u hu=> ?_⟩⟩,fun i r u a b=> (h i r u a b).ex (e_al _ _)⟩;rw [Nat.zero_add];simpa using hu
theorem rows1 {w:World} {l1:List Int} {u1:Value} (h1:ISl w u1 l1):∀(i:Nat) (r:List Int) (u:Value), [l1][i]?=some r→ [u1][i]?=some u→ISl w u r:=fun i r u a b=> by
 match i,a,b with
 | 0,a,b=> simp at a b;subst a b;exact h1
 | i + 1,a,b=> simp at a
def BoxAt (w:World) (b:Nat) (vs:List Value):Prop:=∀i v,vs[i]?=some v→w.cell? ⟨b,i,none⟩=some v
theorem BoxAt.ex {w w':World} {b:Nat} {vs:List Value} (h:BoxAt w b vs) (hx:Ex w w'):BoxAt w' b vs:=fun i v a=> hx.cell (h i v a)
theorem boxAt_new (w:World) (vs:List Value) (cs:Array Value) (t:TypeId) (h:vs.toArray=cs):BoxAt (w.alloc (.cells cs t)) w.heap.size vs:=by
 subst h;intro i v a;simpa using a
theorem e_rows {piv:List Nat} {a':Nat→Nat→Int} {rows:List (List Int)} {r:List Int} {q:Nat} (hr:r.length=3) (hq:PV 2 1 1 3 (rowsF [r]) [q] (q + 1)) (hq3:q < 3) (hR:rows= [r]) (h:ElO 2 1 [] 3 rows.length (rowsF rows) a' piv):rowsL 3 piv.length a'= [r]∧piv.length=1:=by
 subst hR;obtain ⟨e1,e2⟩:=elO_uniq (by omega) (by omega) (fun _=> Iff.rfl) h (elO_self hq (by omega) rfl);refine ⟨?_,by rw [e2];rfl⟩;rw [e1];show [il 3 (rowsF [r] 0)]= [r]
 rw [il_row hr]
theorem k_find (w:World) (v1 v2:Value) (h1:MSl w v1 [[1,1,0]]) (h2:MSl w v2 [[0,1,1]]):
  Calls Tryz.prog 29 #[.agg #[.int .i64 2,.int .i64 1,.slice none 0 0,.int .i64 3,v1],.agg #[.int .i64 2,.int .i64 1,.slice none 0 0,.int .i64 3,v2],.agg #[.slice none 0 0,.slice none 0 0]] w fun r w'=> ∃a c b d,r= .returned (.tuple #[.agg #[.slice a 3 c,.slice b 3 d,.int .i64 0],.int .i64 0])∧ISl w' (.slice a 3 c) [1,2,0]∧ISl w' (.slice b 3 d) [1,1,1]∧Ex w w':=
 (Find_any w eC eD _ _ v1 v2 ⟨isl_nil w,h1⟩ ⟨isl_nil w,h2⟩ [] [] _ _ (isl_nil w) (isl_nil w)).mono fun r w' ⟨⟨e1,e2,o1,o2,h⟩,hx⟩=> by
  obtain rfl:=eC_cod o1;obtain rfl:=eD_cod (o2 rfl);rw [e_st0] at h;obtain ⟨q1,q2,q3,q4⟩:=e_find;obtain ⟨u,v,rfl,hu,hv⟩:=h;rw [q2] at hu;rw [q3] at hv;rw [q1,q4];obtain ⟨a,c,rfl,_⟩:=hu.open;obtain ⟨b,d,rfl,_⟩:=hv.open;exact ⟨a,c,b,d,rfl,hu,hv,hx⟩
theorem k_find1 (w:World) (v1 v2 tv sv:Value) (h1:MSl w v1 [[1,1,0]]) (h2:MSl w v2 [[0,1,1]]) (ht:ISl w tv [0]) (hs:ISl w sv [1]):
  Calls Tryz.prog 29 #[.agg #[.int .i64 2,.int .i64 1,.slice none 0 0,.int .i64 3,v1],.agg #[.int .i64 2,.int .i64 1,.slice none 0 0,.int .i64 3,v2],.agg #[tv,sv]] w fun r w'=> ∃a n c b m d z,r= .returned (.tuple #[.agg #[.slice a n c,.slice b m d,.int .i64 z],.int .i64 11])∧Ex w w':=
 (Find_any w eC eD _ _ v1 v2 ⟨isl_nil w,h1⟩ ⟨isl_nil w,h2⟩ [0] [1] _ _ ht hs).mono fun r w' ⟨⟨e1,e2,o1,o2,h⟩,hx⟩=> by
  obtain rfl:=eC_cod o1;obtain rfl:=eD_cod (o2 rfl);rw [e_st1] at h;obtain ⟨u,v,rfl,hu,hv⟩:=h;rw [e_find1];obtain ⟨a,c,rfl,_⟩:=hu.open;obtain ⟨b,d,rfl,_⟩:=hv.open;exact ⟨a,_,c,b,_,d,_,rfl,hx⟩
theorem k_ref (w:World) (v1 v2 tv sv:Value) (h1:MSl w v1 [[1,1,0]]) (h2:MSl w v2 [[0,1,1]]) (ht:ISl w tv [0]) (hs:ISl w sv [1]):
  Calls Tryz.prog 31 #[.agg #[.int .i64 2,.int .i64 1,.slice none 0 0,.int .i64 3,v1],.agg #[.int .i64 2,.int .i64 1,.slice none 0 0,.int .i64 3,v2],.agg #[tv,sv]] w fun r w'=> ∃a c,r= .returned (.tuple #[.agg #[.slice a 1 c],.int .i64 0])∧RSl w' (.slice a 1 c) [⟨0,0,0, [1]⟩]∧Ex w w':=
 (Refute_any w eC eD _ _ v1 v2 ⟨isl_nil w,h1⟩ ⟨isl_nil w,h2⟩ [0] [1] _ _ ht hs).mono fun r w' ⟨⟨e1,e2,o1,o2,h⟩,hx⟩=> by
  obtain rfl:=eC_cod o1;obtain rfl:=eD_cod (o2 rfl);rw [e_st1] at h;obtain ⟨u,rfl,hu⟩:=h;rw [e_refL] at hu;rw [e_ref];obtain ⟨a,c,rfl,_⟩:=rsl_open hu;exact ⟨a,c,rfl,hu,hx⟩
theorem k_ref1 (w:World) (v1 v2:Value) (h1:MSl w v1 [[1,1,0]]) (h2:MSl w v2 [[0,1,1]]):
  Calls Tryz.prog 31 #[.agg #[.int .i64 2,.int .i64 1,.slice none 0 0,.int .i64 3,v1],.agg #[.int .i64 2,.int .i64 1,.slice none 0 0,.int .i64 3,v2],.agg #[.slice none 0 0,.slice none 0 0]] w fun r w'=> ∃a n c,r= .returned (.tuple #[.agg #[.slice a n c],.int .i64 11])∧Ex w w':=
 (Refute_any w eC eD _ _ v1 v2 ⟨isl_nil w,h1⟩ ⟨isl_nil w,h2⟩ [] [] _ _ (isl_nil w) (isl_nil w)).mono fun r w' ⟨⟨e1,e2,o1,o2,h⟩,hx⟩=> by
  obtain rfl:=eC_cod o1;obtain rfl:=eD_cod (o2 rfl);rw [e_st0] at h;obtain ⟨u,rfl,hu⟩:=h;rw [e_ref1];obtain ⟨a,c,rfl,_⟩:=rsl_open hu;exact ⟨a,_,c,rfl,hx⟩
theorem k_wrd (w:World) (pv sv xv:Value) (hp:ISl w pv [1,0]) (hs:ISl w sv [2,1]) (hx:ISl w xv [1,2]):
  Calls Tryz.prog 15 #[.agg #[.int .i64 3,.int .i64 1,.slice none 0 0],.agg #[pv,sv,.int .i64 0],xv] w fun r w'=> ∃a c,r= .returned (.tuple #[.slice a 2 c,.int .i64 0])∧ISl w' (.slice a 2 c) [2,2]∧Ex w w':=
 (Word_any w 3 1 [] _ (isl_nil w) _ _ pv sv hp hs 0 _ xv hx).mono fun r w' ⟨⟨u,h1,h2⟩,hx⟩=> by
  rw [e_wrd.1] at h1;rw [e_wrd.2] at h2;obtain ⟨a,c,rfl,_⟩:=h2.open;exact ⟨a,c,h1,h2,hx⟩
theorem k_inv (w:World) (pv sv:Value) (hp:ISl w pv [1,0]) (hs:ISl w sv [2,1]):
  Calls Tryz.prog 17 #[.agg #[.int .i64 3,.int .i64 1,.slice none 0 0],.agg #[pv,sv,.int .i64 0]] w fun r w'=> ∃a c b d,r= .returned (.tuple #[.agg #[.slice a 2 c,.slice b 2 d,.int .i64 0],.int .i64 0])∧ISl w' (.slice a 2 c) [1,0]∧ISl w' (.slice b 2 d) [1,2]∧Ex w w':=
 (Inverse_any w 3 1 [] _ (isl_nil w) _ _ pv sv hp hs 0).mono fun r w' ⟨⟨u,v,h1,hu,hv⟩,hx⟩=> by
  obtain ⟨q1,q2,q3,q4⟩:=e_inv
  change monS 3 1 [] ([1,0]:List Int).length [1,0] [2,1] 0=0 at q1
  rw [q1,q4] at h1;rw [q2] at hu;rw [q3] at hv;obtain ⟨a,c,rfl,_⟩:=hu.open;obtain ⟨b,d,rfl,_⟩:=hv.open;exact ⟨a,c,b,d,h1,hu,hv,hx⟩
theorem k_cmp (w:World) (pv sv qv tv:Value) (hp:ISl w pv [1,0]) (hs:ISl w sv [2,1]) (hq:ISl w qv [1,0]) (ht:ISl w tv [1,2]):
  Calls Tryz.prog 23 #[.agg #[.int .i64 3,.int .i64 1,.slice none 0 0],.agg #[pv,sv,.int .i64 0],.agg #[qv,tv,.int .i64 0]] w fun r w'=> ∃a c b d,r= .returned (.tuple #[.agg #[.slice a 2 c,.slice b 2 d,.int .i64 0],.int .i64 0])∧ISl w' (.slice a 2 c) [0,1]∧ISl w' (.slice b 2 d) [1,1]∧Ex w w':=
 (Compose_any w 3 1 [] _ (isl_nil w) _ _ pv sv hp hs 0 _ _ qv tv hq ht 0).mono fun r w' ⟨⟨u,v,h1,hu,hv⟩,hx⟩=> by
  obtain ⟨q1,q2,q3,q4⟩:=e_cmp;rw [q1,q4] at h1;rw [q2] at hu;rw [q3] at hv;obtain ⟨a,c,rfl,_⟩:=hu.open;obtain ⟨b,d,rfl,_⟩:=hv.open;exact ⟨a,c,b,d,h1,hu,hv,hx⟩
theorem k_app (w:World) (v1 pv sv:Value) (h1:MSl w v1 [[1,1,0]]) (hp:ISl w pv [1,2,0]) (hs:ISl w sv [1,1,1]):
  Calls Tryz.prog 38 #[.agg #[.int .i64 2,.int .i64 1,.slice none 0 0,.int .i64 3,v1],.agg #[pv,sv,.int .i64 0]] w fun r w'=> ∃ma mc ga gc,r= .returned (.tuple #[.agg #[.int .i64 2,.int .i64 1,.slice ma 0 mc,.int .i64 3,.slice ga 1 gc],.int .i64 0])∧ISl w' (.slice ma 0 mc) []∧MSl w' (.slice ga 1 gc) [[0,1,1]]∧Ex w w':=
 (Apply_any w 2 1 [] _ (isl_nil w) 3 _ v1 h1 _ _ pv sv hp hs 0).mono fun r w' ⟨⟨e1,o1,h⟩,hx⟩=> by
  obtain rfl:=eC_cod o1;obtain ⟨q1,q2⟩:=e_app;rcases h with ⟨h,_⟩ | ⟨_,h,_⟩ | ⟨_,_,h⟩
  ·exact absurd rfl h
  ·exact absurd q1 h
  ·rw [q2] at h;rcases h with ⟨h,_⟩ | ⟨_,pn,mn,N,piv,a',rv,v',x1,x2,x3,_,_,rfl,hel,hi,hm,_⟩
   ·exact absurd (by decide +kernel) h
   ·obtain rfl:pn=2:=by omega
    obtain rfl:mn=1:=by omega
    obtain rfl:N=3:=by omega
    obtain ⟨y1,y2⟩:=e_rows (r:= [0,1,1]) (q:=1) rfl eD_pv (by omega) rfl hel;rw [y1] at hm;obtain ⟨a,c,rfl,_⟩:=hi.open;obtain ⟨b,d,rfl,_⟩:=hm.open;exact ⟨a,c,b,d,rfl,hi,hm,hx⟩
theorem k_map (w:World) (pl sl:List Int) (pv sv qv tv:Value) (hp:ISl w pv pl) (hs:ISl w sv sl) (hq:ISl w qv pl) (ht:ISl w tv sl):
  Calls Tryz.prog 20 #[.agg #[pv,sv,.int .i64 0],.agg #[qv,tv,.int .i64 0]] w fun r w'=> r= .returned (.bool true)∧Ex w w':=
 (SameMap_any w pl sl pl sl pv sv qv tv hp hs hq ht 0 0).mono fun r w' ⟨h,hx⟩=> by
  rw [decide_eq_true ⟨rfl,rfl,rfl⟩] at h;exact ⟨h,hx⟩
theorem k_same (w:World) (lv kv:Value) (es:List Rf) (hL:RSl w lv es) (hK:RSl w kv es):
  Calls Tryz.prog 33 #[.agg #[lv],.agg #[kv]] w fun r w'=> r= .returned (.bool true)∧Ex w w':=
 (rSameR_any w es es lv kv hL hK).mono fun r w' ⟨⟨b,h,hb⟩,hx⟩=> by
  rw [hb.2 rfl] at h;exact ⟨h,hx⟩
theorem k_ints (w:World) (v u:Value) (l:List Int) (hv:ISl w v l) (hu:ISl w u l):Calls Tryz.prog 19 #[v,u] w fun r w'=> r= .returned (.bool true)∧Ex w w':=
 (SameInts_any w l l v u hv hu).mono fun r w' ⟨h1,n,h3⟩=> by
  rw [decide_eq_true rfl] at h1;exact ⟨h1,by rw [h3];exact (Ex.refl w).drewN n⟩
theorem k_code (w:World) (m1 m2 v1 v2:Value) (a1:ISl w m1 []) (a2:ISl w m2 []) (h1:MSl w v1 [[0,1,1]]) (h2:MSl w v2 [[0,1,1]]):
  Calls Tryz.prog 39 #[.agg #[.int .i64 2,.int .i64 1,m1,.int .i64 3,v1],.agg #[.int .i64 2,.int .i64 1,m2,.int .i64 3,v2]] w fun r w'=> r= .returned (.bool true)∧Ex w w':=
 (rCSame_any w eD eD m1 m2 v1 v2 ⟨a1,h1⟩ ⟨a2,h2⟩).mono fun r w' ⟨h,hx⟩=> by
  rw [samC_iff.2 rfl] at h;exact ⟨h,hx⟩
theorem k_mon (w:World) (pv sv:Value) (hp:ISl w pv [1,0]) (hs:ISl w sv [2,1]):
  Calls Tryz.prog 21 #[.agg #[.int .i64 3,.int .i64 1,.slice none 0 0],.int .i64 2,.agg #[pv,sv,.int .i64 0]] w fun r w'=> r= .returned (.int .i64 0)∧Ex w w':=
 (eCheck_any w 3 1 [] _ (isl_nil w) 2 _ _ pv sv hp hs 0).mono fun r w' ⟨h,hx⟩=> by
  rw [e_inv.1] at h;exact ⟨h,hx⟩
theorem k_chk (w:World) (v1 v2 tv sv ev:Value) (h1:MSl w v1 [[1,1,0]]) (h2:MSl w v2 [[0,1,1]]) (ht:ISl w tv [0]) (hs:ISl w sv [1]) (he:RSl w ev [⟨0,0,0, [1]⟩]):
  Calls Tryz.prog 34 #[.agg #[.int .i64 2,.int .i64 1,.slice none 0 0,.int .i64 3,v1],.agg #[.int .i64 2,.int .i64 1,.slice none 0 0,.int .i64 3,v2],.agg #[tv,sv],.agg #[ev]] w fun r w'=> r= .returned (.int .i64 0)∧Ex w w':=
 (CheckRefutation_any w eC eD _ _ v1 v2 ⟨isl_nil w,h1⟩ ⟨isl_nil w,h2⟩ [0] [1] _ _ ht hs _ ev he).mono fun r w' ⟨⟨e1,e2,o1,o2,h⟩,hx⟩=> by
  obtain rfl:=eC_cod o1;obtain rfl:=eD_cod (o2 rfl);rw [e_st1,e_chk] at h;exact ⟨h,hx⟩
theorem k_chk1 (w:World) (v1 tv sv ev:Value) (h1:MSl w v1 [[1,1,0]]) (ht:ISl w tv [0]) (hs:ISl w sv [1]) (he:RSl w ev [⟨0,0,0, [1]⟩]):
  Calls Tryz.prog 34 #[.agg #[.int .i64 2,.int .i64 1,.slice none 0 0,.int .i64 3,v1],.agg #[.int .i64 2,.int .i64 1,.slice none 0 0,.int .i64 3,v1],.agg #[tv,sv],.agg #[ev]] w fun r w'=> r= .returned (.int .i64 13)∧Ex w w':=
 (CheckRefutation_any w eC eC _ _ v1 v1 ⟨isl_nil w,h1⟩ ⟨isl_nil w,h1⟩ [0] [1] _ _ ht hs _ ev he).mono fun r w' ⟨⟨e1,e2,o1,o2,h⟩,hx⟩=> by
  obtain rfl:=eC_cod o1;obtain rfl:=eC_cod (o2 rfl);rw [e_st2,e_chk1] at h;exact ⟨h,hx⟩
def eqW1 (w:World):World:=w.alloc (.cells #[.int .i64 2,.int .i64 1,.slice none 0 0] 24)
def eqW2 (w:World):World:=(eqW1 w).alloc (.cells #[.int .i64 3,.int .i64 1,.slice none 0 0] 24)
def eqW3 (w:World):World:=(eqW2 w).alloc (.cells #[.int .i64 1,.int .i64 1,.int .i64 0] 3)
def eqW4 (w:World):World:=(eqW3 w).alloc (.cells #[.slice (some ⟨w.heap.size + 1 + 1,0,none⟩) 3 3] 22)
def eqW5 (w:World):World:=(eqW4 w).alloc (.cells #[.int .i64 2,.int .i64 1,.slice none 0 0,.int .i64 3,.slice (some ⟨w.heap.size + 1 + 1 + 1,0,none⟩) 1 1] 47)
def eqW6 (w:World):World:=(eqW5 w).alloc (.cells #[.int .i64 0,.int .i64 1,.int .i64 1] 3)
def eqW7 (w:World):World:=(eqW6 w).alloc (.cells #[.slice (some ⟨w.heap.size + 1 + 1 + 1 + 1 + 1,0,none⟩) 3 3] 22)
def eqW8 (w:World):World:=(eqW7 w).alloc (.cells #[.int .i64 2,.int .i64 1,.slice none 0 0,.int .i64 3,.slice (some ⟨w.heap.size + 1 + 1 + 1 + 1 + 1 + 1,0,none⟩) 1 1] 47)
def eqW9 (w:World):World:=(eqW8 w).alloc (.cells #[.int .i64 0] 3)
def eqW10 (w:World):World:=(eqW9 w).alloc (.cells #[.int .i64 1] 3)
def eqW11 (w:World):World:=(eqW10 w).alloc (.cells #[.slice (some ⟨w.heap.size + 1 + 1 + 1 + 1 + 1 + 1 + 1 + 1,0,none⟩) 1 1,.slice (some ⟨w.heap.size + 1 + 1 + 1 + 1 + 1 + 1 + 1 + 1 + 1,0,none⟩) 1 1] 49)
theorem eqW_facts (w:World):Ex w (eqW11 w)∧((eqW11 w).cell? ⟨w.heap.size,0,none⟩=some (.int .i64 2))∧((eqW11 w).cell? ⟨w.heap.size,1,none⟩=some (.int .i64 1))∧((eqW11 w).cell? ⟨w.heap.size,2,none⟩=some (.slice none 0 0))∧((eqW11 w).cell? ⟨w.heap.size + 1,0,none⟩=some (.int .i64 3))∧((eqW11 w).cell? ⟨w.heap.size + 1,1,none⟩=some (.int .i64 1))∧((eqW11 w).cell? ⟨w.heap.size + 1,2,none⟩=some (.slice none 0 0))∧(ISl (eqW11 w) (.slice (some ⟨w.heap.size + 1 + 1,0,none⟩) 3 3) [1,1,0])∧(MSl (eqW11 w) (.slice (some ⟨w.heap.size + 1 + 1 + 1,0,none⟩) 1 1) [[1,1,0]])∧((eqW11 w).cell? ⟨w.heap.size + 1 + 1 + 1 + 1,0,none⟩=some (.int .i64 2))∧((eqW11 w).cell? ⟨w.heap.size + 1 + 1 + 1 + 1,1,none⟩=some (.int .i64 1))∧((eqW11 w).cell? ⟨w.heap.size + 1 + 1 + 1 + 1,2,none⟩=some (.slice none 0 0))∧((eqW11 w).cell? ⟨w.heap.size + 1 + 1 + 1 + 1,3,none⟩=some (.int .i64 3))∧((eqW11 w).cell? ⟨w.heap.size + 1 + 1 + 1 + 1,4,none⟩=some (.slice (some ⟨w.heap.size + 1 + 1 + 1,0,none⟩) 1 1))∧(ISl (eqW11 w) (.slice (some ⟨w.heap.size + 1 + 1 + 1 + 1 + 1,0,none⟩) 3 3) [0,1,1])∧(MSl (eqW11 w) (.slice (some ⟨w.heap.size + 1 + 1 + 1 + 1 + 1 + 1,0,none⟩) 1 1) [[0,1,1]])∧((eqW11 w).cell? ⟨w.heap.size + 1 + 1 + 1 + 1 + 1 + 1 + 1,0,none⟩=some (.int .i64 2))∧((eqW11 w).cell? ⟨w.heap.size + 1 + 1 + 1 + 1 + 1 + 1 + 1,1,none⟩=some (.int .i64 1))∧((eqW11 w).cell? ⟨w.heap.size + 1 + 1 + 1 + 1 + 1 + 1 + 1,2,none⟩=some (.slice none 0 0))∧((eqW11 w).cell? ⟨w.heap.size + 1 + 1 + 1 + 1 + 1 + 1 + 1,3,none⟩=some (.int .i64 3))∧((eqW11 w).cell? ⟨w.heap.size + 1 + 1 + 1 + 1 + 1 + 1 + 1,4,none⟩=some (.slice (some ⟨w.heap.size + 1 + 1 + 1 + 1 + 1 + 1,0,none⟩) 1 1))∧(ISl (eqW11 w) (.slice (some ⟨w.heap.size + 1 + 1 + 1 + 1 + 1 + 1 + 1 + 1,0,none⟩) 1 1) [0])∧(ISl (eqW11 w) (.slice (some ⟨w.heap.size + 1 + 1 + 1 + 1 + 1 + 1 + 1 + 1 + 1,0,none⟩) 1 1) [1])∧((eqW11 w).cell? ⟨w.heap.size + 1 + 1 + 1 + 1 + 1 + 1 + 1 + 1 + 1 + 1,0,none⟩=some (.slice (some ⟨w.heap.size + 1 + 1 + 1 + 1 + 1 + 1 + 1 + 1,0,none⟩) 1 1))∧((eqW11 w).cell? ⟨w.heap.size + 1 + 1 + 1 + 1 + 1 + 1 + 1 + 1 + 1 + 1,1,none⟩=some (.slice (some ⟨w.heap.size + 1 + 1 + 1 + 1 + 1 + 1 + 1 + 1 + 1,0,none⟩) 1 1)):=by
 have z1:(eqW1 w).heap.size=w.heap.size + 1:=by unfold eqW1;simp
 have z2:(eqW2 w).heap.size=w.heap.size + 1 + 1:=by unfold eqW2;simp [z1]
 have z3:(eqW3 w).heap.size=w.heap.size + 1 + 1 + 1:=by unfold eqW3;simp [z2]
 have z4:(eqW4 w).heap.size=w.heap.size + 1 + 1 + 1 + 1:=by unfold eqW4;simp [z3]
 have z5:(eqW5 w).heap.size=w.heap.size + 1 + 1 + 1 + 1 + 1:=by unfold eqW5;simp [z4]
 have z6:(eqW6 w).heap.size=w.heap.size + 1 + 1 + 1 + 1 + 1 + 1:=by unfold eqW6;simp [z5]
 have z7:(eqW7 w).heap.size=w.heap.size + 1 + 1 + 1 + 1 + 1 + 1 + 1:=by unfold eqW7;simp [z6]
 have z8:(eqW8 w).heap.size=w.heap.size + 1 + 1 + 1 + 1 + 1 + 1 + 1 + 1:=by unfold eqW8;simp [z7]
 have z9:(eqW9 w).heap.size=w.heap.size + 1 + 1 + 1 + 1 + 1 + 1 + 1 + 1 + 1:=by unfold eqW9;simp [z8]
 have z10:(eqW10 w).heap.size=w.heap.size + 1 + 1 + 1 + 1 + 1 + 1 + 1 + 1 + 1 + 1:=by unfold eqW10;simp [z9]
 have z11:(eqW11 w).heap.size=w.heap.size + 1 + 1 + 1 + 1 + 1 + 1 + 1 + 1 + 1 + 1 + 1:=by unfold eqW11;simp [z10]
 have zz:w.heap.size=w.heap.size:=rfl;have e1:Ex w (eqW1 w):=(Ex.refl _).alloc _;have e2:Ex (eqW1 w) (eqW2 w):=(Ex.refl _).alloc _;have e3:Ex (eqW2 w) (eqW3 w):=(Ex.refl _).alloc _;have e4:Ex (eqW3 w) (eqW4 w):=(Ex.refl _).alloc _;have e5:Ex (eqW4 w) (eqW5 w):=(Ex.refl _).alloc _;have e6:Ex (eqW5 w) (eqW6 w):=(Ex.refl _).alloc _;have e7:Ex (eqW6 w) (eqW7 w):=(Ex.refl _).alloc _;have e8:Ex (eqW7 w) (eqW8 w):=(Ex.refl _).alloc _;have e9:Ex (eqW8 w) (eqW9 w):=(Ex.refl _).alloc _;have e10:Ex (eqW9 w) (eqW10 w):=(Ex.refl _).alloc _;have e11:Ex (eqW10 w) (eqW11 w):=(Ex.refl _).alloc _;have c0_0:(eqW1 w).cell? ⟨w.heap.size,0,none⟩=some (.int .i64 2):=by unfold eqW1;simp
 have c0_1:(eqW1 w).cell? ⟨w.heap.size,1,none⟩=some (.int .i64 1):=by unfold eqW1;simp
 have c0_2:(eqW1 w).cell? ⟨w.heap.size,2,none⟩=some (.slice none 0 0):=by unfold eqW1;simp
 have c1_0:(eqW2 w).cell? ⟨w.heap.size + 1,0,none⟩=some (.int .i64 3):=by unfold eqW2;rw [←z1];simp
 have c1_1:(eqW2 w).cell? ⟨w.heap.size + 1,1,none⟩=some (.int .i64 1):=by unfold eqW2;rw [←z1];simp
 have c1_2:(eqW2 w).cell? ⟨w.heap.size + 1,2,none⟩=some (.slice none 0 0):=by unfold eqW2;rw [←z1];simp
 have i2:ISl (eqW3 w) (.slice (some ⟨w.heap.size + 1 + 1,0,none⟩) 3 3) [1,1,0]:=isl_lit (eqW2 w) [1,1,0] _ _ rfl z2 rfl (by decide);have i3:MSl (eqW4 w) (.slice (some ⟨w.heap.size + 1 + 1 + 1,0,none⟩) 1 1) [[1,1,0]]:=msl_lit (eqW3 w) [[1,1,0]] [.slice (some ⟨w.heap.size + 1 + 1,0,none⟩) 3 3] _ _ rfl rfl (rows1 i2) z3 rfl (by decide);have c4_0:(eqW5 w).cell? ⟨w.heap.size + 1 + 1 + 1 + 1,0,none⟩=some (.int .i64 2):=by unfold eqW5;rw [←z4];simp
 have c4_1:(eqW5 w).cell? ⟨w.heap.size + 1 + 1 + 1 + 1,1,none⟩=some (.int .i64 1):=by unfold eqW5;rw [←z4];simp
 have c4_2:(eqW5 w).cell? ⟨w.heap.size + 1 + 1 + 1 + 1,2,none⟩=some (.slice none 0 0):=by unfold eqW5;rw [←z4];simp
 have c4_3:(eqW5 w).cell? ⟨w.heap.size + 1 + 1 + 1 + 1,3,none⟩=some (.int .i64 3):=by unfold eqW5;rw [←z4];simp
 have c4_4:(eqW5 w).cell? ⟨w.heap.size + 1 + 1 + 1 + 1,4,none⟩=some (.slice (some ⟨w.heap.size + 1 + 1 + 1,0,none⟩) 1 1):=by unfold eqW5;rw [←z4];simp
 have i5:ISl (eqW6 w) (.slice (some ⟨w.heap.size + 1 + 1 + 1 + 1 + 1,0,none⟩) 3 3) [0,1,1]:=isl_lit (eqW5 w) [0,1,1] _ _ rfl z5 rfl (by decide);have i6:MSl (eqW7 w) (.slice (some ⟨w.heap.size + 1 + 1 + 1 + 1 + 1 + 1,0,none⟩) 1 1) [[0,1,1]]:=msl_lit (eqW6 w) [[0,1,1]] [.slice (some ⟨w.heap.size + 1 + 1 + 1 + 1 + 1,0,none⟩) 3 3] _ _ rfl rfl (rows1 i5) z6 rfl (by decide);have c7_0:(eqW8 w).cell? ⟨w.heap.size + 1 + 1 + 1 + 1 + 1 + 1 + 1,0,none⟩=some (.int .i64 2):=by unfold eqW8;rw [←z7];simp
 have c7_1:(eqW8 w).cell? ⟨w.heap.size + 1 + 1 + 1 + 1 + 1 + 1 + 1,1,none⟩=some (.int .i64 1):=by unfold eqW8;rw [←z7];simp
 have c7_2:(eqW8 w).cell? ⟨w.heap.size + 1 + 1 + 1 + 1 + 1 + 1 + 1,2,none⟩=some (.slice none 0 0):=by unfold eqW8;rw [←z7];simp
 have c7_3:(eqW8 w).cell? ⟨w.heap.size + 1 + 1 + 1 + 1 + 1 + 1 + 1,3,none⟩=some (.int .i64 3):=by unfold eqW8;rw [←z7];simp
 have c7_4:(eqW8 w).cell? ⟨w.heap.size + 1 + 1 + 1 + 1 + 1 + 1 + 1,4,none⟩=some (.slice (some ⟨w.heap.size + 1 + 1 + 1 + 1 + 1 + 1,0,none⟩) 1 1):=by unfold eqW8;rw [←z7];simp
 have i8:ISl (eqW9 w) (.slice (some ⟨w.heap.size + 1 + 1 + 1 + 1 + 1 + 1 + 1 + 1,0,none⟩) 1 1) [0]:=isl_lit (eqW8 w) [0] _ _ rfl z8 rfl (by decide);have i9:ISl (eqW10 w) (.slice (some ⟨w.heap.size + 1 + 1 + 1 + 1 + 1 + 1 + 1 + 1 + 1,0,none⟩) 1 1) [1]:=isl_lit (eqW9 w) [1] _ _ rfl z9 rfl (by decide);have c10_0:(eqW11 w).cell? ⟨w.heap.size + 1 + 1 + 1 + 1 + 1 + 1 + 1 + 1 + 1 + 1,0,none⟩=some (.slice (some ⟨w.heap.size + 1 + 1 + 1 + 1 + 1 + 1 + 1 + 1,0,none⟩) 1 1):=by unfold eqW11;rw [←z10];simp
 have c10_1:(eqW11 w).cell? ⟨w.heap.size + 1 + 1 + 1 + 1 + 1 + 1 + 1 + 1 + 1 + 1,1,none⟩=some (.slice (some ⟨w.heap.size + 1 + 1 + 1 + 1 + 1 + 1 + 1 + 1 + 1,0,none⟩) 1 1):=by unfold eqW11;rw [←z10];simp
 exact ⟨((((((((((e1.trans e2).trans e3).trans e4).trans e5).trans e6).trans e7).trans e8).trans e9).trans e10).trans e11),(((((((((e2.trans e3).trans e4).trans e5).trans e6).trans e7).trans e8).trans e9).trans e10).trans e11).cell (c0_0),(((((((((e2.trans e3).trans e4).trans e5).trans e6).trans e7).trans e8).trans e9).trans e10).trans e11).cell (c0_1),(((((((((e2.trans e3).trans e4).trans e5).trans e6).trans e7).trans e8).trans e9).trans e10).trans e11).cell (c0_2),((((((((e3.trans e4).trans e5).trans e6).trans e7).trans e8).trans e9).trans e10).trans e11).cell (c1_0),((((((((e3.trans e4).trans e5).trans e6).trans e7).trans e8).trans e9).trans e10).trans e11).cell (c1_1),((((((((e3.trans e4).trans e5).trans e6).trans e7).trans e8).trans e9).trans e10).trans e11).cell (c1_2),(i2).ex (((((((e4.trans e5).trans e6).trans e7).trans e8).trans e9).trans e10).trans e11),(i3).ex ((((((e5.trans e6).trans e7).trans e8).trans e9).trans e10).trans e11),(((((e6.trans e7).trans e8).trans e9).trans e10).trans e11).cell (c4_0),(((((e6.trans e7).trans e8).trans e9).trans e10).trans e11).cell (c4_1),(((((e6.trans e7).trans e8).trans e9).trans e10).trans e11).cell (c4_2),(((((e6.trans e7).trans e8).trans e9).trans e10).trans e11).cell (c4_3),(((((e6.trans e7).trans e8).trans e9).trans e10).trans e11).cell (c4_4),(i5).ex ((((e7.trans e8).trans e9).trans e10).trans e11),(i6).ex (((e8.trans e9).trans e10).trans e11),((e9.trans e10).trans e11).cell (c7_0),((e9.trans e10).trans e11).cell (c7_1),((e9.trans e10).trans e11).cell (c7_2),((e9.trans e10).trans e11).cell (c7_3),((e9.trans e10).trans e11).cell (c7_4),(i8).ex (e10.trans e11),(i9).ex e11,c10_0,c10_1⟩
end Go.Proofs.YtgdmlmhpineibaaGreat
