/- The kernel's tables: for each order p^m up to 256, m at least 2, and each modulus, a generator or a divisor (printed by gen_table.py). -/
import Derived.OwnWalk
import Derived.Laws.OwnMore
import Derived.Test.YtgdmlmhpineibaaGreatZg01
namespace Go.Proofs.YtgdmlmhpineibaaGreat
set_option linter.unusedVariables false
set_option linter.unusedSimpArgs false
set_option maxRecDepth 100000
section
noncomputable section
def allB (f:List Bool→Bool) (l:List (List Bool)):Bool:=@List.rec (List Bool) (fun _=> Bool) true (fun x _ ih=> match f x with | true=> ih | false=> false) l
def dvC (p d u:Nat) (low:List Nat):Bool:=Nat.beq (codC p (mulC p (dgC p d u) (dgC p d 0) (dgC p d 1) (low ++ [1]))) 0
def gnC (p m g:Nat) (b1:List Bool) (D:List (List Bool)) (low:List Nat):Bool:=
 match Nat.beq (pwC p m low (dgC p m 0) g b1 1) 1 with
 | true=> allB (fun b=> match Nat.beq (pwC p m low (dgC p m 0) g b 1) 1 with | true=> false | false=> true) D
 | false=> false
def entC (p m:Nat) (b1:List Bool) (D:List (List Bool)) (t:Nat) (low:List Nat):Bool:=
 match Nat.beq (Nat.mod t 2) 0 with
 | true=> dvC p (Nat.mod (Nat.div t 2) 8) (Nat.div t 16) low
 | false=> gnC p m (Nat.div t 2) b1 D low
def tabC (p m:Nat) (b1:List Bool) (D:List (List Bool)) (T:List Nat):Nat→Bool:=
 @List.rec Nat (fun _=> Nat→Bool) (fun _=> true) (fun t _ ih v=> match entC p m b1 D t (dgC p m v) with | true=> ih (Nat.succ v) | false=> false) T
end
theorem tab_2_2:tabC 2 2 [true,true] [[true]] [2,18,2,5] 0=true:=by decide +kernel
theorem tab_2_3:tabC 2 3 [true,true,true] [[true]] [2,18,2,5,2,5,2,18] 0=true:=by decide +kernel
theorem tab_2_4:tabC 2 4 [true,true,true,true] [[true,false,true], [true,true]] [2,18,2,5,2,52,2,18,2,5,2,18,2,18,2,7] 0=true:=by decide +kernel
theorem tab_2_5:tabC 2 5 [true,true,true,true,true] [[true]] [2,18,2,52,2,5,2,18,2,5,2,18,2,18,2,5,2,52,2,18,2,18,2,5,2,18,2,5,2,5,2,18] 0=true:=by decide +kernel
theorem tab_2_6:tabC 2 6 [true,true,true,true,true,true] [[true,false,true,false,true], [true,false,false,true]] [2,18,2,5,2,54,2,18,2,7,2,18,2,18,2,52,2,86,2,18,2,18,2,7,2,18,2,5,2,52,2,18,2,5,2,18,2,18,2,5,2,18,2,52,2,5,2,18,2,18,2,5,2,7,2,18,2,52,2,18,2,18,2,54] 0=true:=by decide +kernel
theorem tab_2_7:tabC 2 7 [true,true,true,true,true,true,true] [[true]] [2,18,2,5,2,52,2,18,2,5,2,18,2,18,2,5,2,5,2,18,2,18,2,52,2,18,2,86,2,5,2,18,2,52,2,18,2,18,2,5,2,18,2,5,2,54,2,18,2,18,2,52,2,86,2,18,2,5,2,18,2,18,2,5,2,5,2,18,2,18,2,86,2,18,2,5,2,52,2,18,2,18,2,5,2,5,2,18,2,54,2,18,2,18,2,52,2,18,2,54,2,5,2,18,2,52,2,18,2,18,2,5,2,5,2,18,2,18,2,5,2,18,2,52,2,5,2,18] 0=true:=by decide +kernel
theorem tab_2_8:tabC 2 8 [true,true,true,true,true,true,true,true] [[true,false,true,false,true,false,true], [true,true,false,false,true,true], [true,true,true,true]] [2,18,2,52,2,56,2,18,2,54,2,18,2,18,2,86,2,52,2,18,2,18,2,152,2,18,2,7,2,5,2,18,2,86,2,18,2,18,2,52,2,18,2,5,2,5,2,18,2,18,2,54,2,52,2,18,2,7,2,18,2,18,2,7,2,152,2,18,2,18,2,54,2,18,2,52,2,5,2,18,2,18,2,86,2,248,2,18,2,52,2,18,2,18,2,5,2,18,2,5,2,5,2,18,2,5,2,18,2,18,2,52,2,5,2,18,2,18,2,7,2,18,2,19,2,52,2,18,2,52,2,18,2,18,2,5,2,18,2,13,2,5,2,18,2,18,2,52,2,54,2,18,2,86,2,18,2,18,2,7,2,18,2,7,2,52,2,18,2,5,2,18,2,18,2,54,2,13,2,18,2,18,2,52,2,18,2,56,2,15,2,18,2,18,2,5,2,86,2,18,2,52,2,18,2,18,2,5,2,56,2,18,2,18,2,15,2,18,2,52,2,13,2,18,2,54,2,18,2,18,2,5,2,18,2,86,2,52,2,18,2,18,2,13,2,5,2,18,2,7,2,18,2,18,2,52] 0=true:=by decide +kernel
theorem tab_3_2:tabC 3 2 [true,false,false,false] [[true,false,false]] [2,9,18,2,34,7,2,18,7] 0=true:=by decide +kernel
theorem tab_3_3:tabC 3 3 [true,true,false,true,false] [[true,true,false,true], [true,false]] [2,18,34,2,34,18,2,7,13,2,34,11,2,18,9,2,7,18,2,7,18,2,7,34,2,18,9] 0=true:=by decide +kernel
theorem tab_3_4:tabC 3 4 [true,false,true,false,false,false,false] [[true,false,true,false,false,false], [true,false,false,false,false]] [2,84,18,2,34,7,2,18,7,2,18,25,2,9,18,2,11,34,2,20,9,2,18,34,2,34,18,2,34,7,2,18,20,2,9,18,2,21,18,2,11,34,2,18,7,2,18,34,2,34,18,2,132,7,2,18,7,2,9,18,2,34,20,2,21,34,2,18,7,2,9,18,2,34,18,2,84,7,2,18,34] 0=true:=by decide +kernel
theorem tab_3_5:tabC 3 5 [true,true,true,true,false,false,true,false] [[true,true,true,true,false,false,true], [true,false,true,true,false]] [2,18,34,2,34,18,2,7,13,2,34,132,2,18,9,2,20,18,2,84,18,2,7,34,2,18,20,2,34,18,2,7,13,2,18,34,2,18,9,2,132,18,2,34,13,2,7,34,2,18,84,2,7,18,2,132,84,2,18,34,2,34,18,2,7,18,2,34,11,2,18,9,2,18,9,2,7,18,2,9,34,2,34,11,2,18,9,2,7,18,2,7,18,2,7,34,2,18,9,2,18,34,2,34,18,2,20,132,2,18,20,2,7,18,2,34,84,2,84,34,2,18,132,2,7,18,2,34,18,2,7,13,2,18,34,2,7,18,2,34,20,2,18,13,2,18,9,2,7,18,2,132,34,2,7,13,2,18,34,2,34,18,2,7,18,2,7,34,2,18,11,2,18,34,2,34,18,2,84,20,2,34,11,2,18,9,2,7,18,2,20,34,2,18,9,2,132,18,2,34,18,2,7,13,2,18,34,2,18,132,2,84,18,2,34,11,2,18,9,2,20,18,2,7,34,2,7,13,2,18,34,2,34,18,2,15,18,2,34,11,2,18,84] 0=true:=by decide +kernel
theorem tab_5_2:tabC 5 2 [true,true,false,false,false] [[true,true,false,false], [true,false,false,false]] [2,34,13,15,18,2,15,11,34,50,2,18,50,11,17,2,66,18,11,13,2,13,11,18,34] 0=true:=by decide +kernel
theorem tab_5_3:tabC 5 3 [true,true,true,true,true,false,false] [[true,true,true,true,true,false], [true,false,false]] [2,18,50,34,66,2,19,18,66,13,2,13,34,18,15,2,50,11,11,18,2,34,11,11,50,2,15,11,50,34,2,18,66,11,13,2,66,18,34,50,2,13,50,18,17,2,13,34,11,18,2,13,66,11,18,2,66,34,11,15,2,18,11,11,34,2,34,18,50,66,2,50,11,18,17,2,34,11,18,15,2,13,11,34,18,2,50,11,11,66,2,18,34,66,50,2,15,18,11,34,2,50,18,11,13,2,13,11,18,34,2,34,50,66,18,2,15,66,34,19,2,18,11,50,13] 0=true:=by decide +kernel
theorem tab_7_2:tabC 7 2 [true,true,false,false,false,false] [[true,true,false,false,false], [true,false,false,false,false]] [2,19,17,34,17,50,18,2,50,66,15,21,34,21,2,18,21,15,50,15,66,2,23,18,66,82,15,23,2,17,82,18,34,15,17,2,98,17,15,18,15,34,2,34,50,15,19,18,19] 0=true:=by decide +kernel
theorem tab_11_2:tabC 11 2 [true,true,true,true,false,false,false] [[true,true,true,true,false,false], [true,false,true,false,false,false], [true,true,false,false,false]] [2,31,50,27,29,25,66,34,82,27,18,2,31,82,98,27,50,27,23,23,34,66,2,18,33,66,29,31,23,82,50,98,29,2,82,18,33,98,114,23,66,23,25,25,2,114,23,18,34,35,82,23,33,25,98,2,25,23,27,18,98,34,35,114,130,25,2,25,23,27,114,18,130,25,34,50,37,2,50,23,130,146,27,18,23,25,29,34,2,34,146,27,50,66,23,18,23,25,29,2,162,29,34,25,27,23,50,18,66,25,2,29,66,82,25,34,25,23,23,18,50] 0=true:=by decide +kernel
theorem tab_13_2:tabC 13 2 [true,false,true,false,true,false,false,false] [[true,false,true,false,true,false,false], [true,true,true,false,false,false], [true,true,false,false,false]] [2,82,31,98,50,29,29,31,35,34,66,31,18,2,66,27,35,31,31,82,50,35,98,114,34,35,2,18,98,33,114,66,27,27,33,37,50,82,33,2,37,18,82,29,37,27,27,98,66,37,114,130,2,98,27,18,34,114,27,130,82,29,29,27,39,2,39,130,146,18,39,34,98,31,39,29,27,114,2,31,27,29,41,18,114,27,34,50,130,27,146,2,33,27,31,29,130,18,27,146,162,34,27,50,2,29,50,66,146,29,162,18,33,29,31,27,34,2,34,27,162,178,50,27,66,18,35,29,27,31,2,31,178,34,35,31,27,27,50,18,31,66,82,2,194,66,29,82,34,27,27,29,33,18,50,29,2,50,27,33,29,29,66,34,33,82,98,18,33] 0=true:=by decide +kernel
end
section
open Go.RowKit
def vs (n:Nat) (c:Nat→Value):List Value:=(List.range n).map c
theorem vs_length (n:Nat) (c:Nat→Value):(vs n c).length=n:=by simp [vs]
theorem vs_get {n j:Nat} (h:j < n) (c:Nat→Value):(vs n c)[j]?=some (c j):=by simp [vs,h]
def upd {α:Type} (c:Nat→α) (k:Nat) (u:α):Nat→α:=fun j=> if j=k then u else c j
theorem vs_set (n k:Nat) (c:Nat→Value) (u:Value):(vs n c).set k u=vs n (upd c k u):=by
 apply List.ext_getElem?;intro j;rw [List.getElem?_set];by_cases h:k=j
 ·subst h;by_cases hk:k < n
  ·simp [vs,upd,hk]
  ·simp [vs,hk]
 ·rw [if_neg h];by_cases hj:j < n
  ·rw [vs_get hj,vs_get hj];unfold upd;rw [if_neg (fun e=> h e.symm)]
  ·simp [vs,hj]
theorem vs_succ (n:Nat) (c:Nat→Value):vs (n + 1) c=vs n c ++ [c n]:=by simp [vs,List.range_succ]
theorem vs_congr {n:Nat} {c d:Nat→Value} (h:∀j,j < n→c j=d j):vs n c=vs n d:=
 List.map_congr_left fun j hj=> h j (List.mem_range.1 hj)
theorem vs_replicate (n:Nat) (u:Value):List.replicate n u=vs n (fun _=> u):=by
 apply List.ext_getElem?;intro j;by_cases hj:j < n <;> simp [vs,hj]
def Own (w:World) (base:Nat) (e:TypeId) (g n:Nat) (c:Nat→Value):Prop:=w.ownsRow base e 1 (.slice (some ⟨g,0,none⟩) n n) n (vs n c)
section
variable {w:World} {base:Nat} {e:TypeId} {g n:Nat} {c:Nat→Value}
theorem Own.cell (h:Own w base e g n c) {j:Nat} (hj:j < n):w.cell? ⟨g,j,none⟩=some (c j):=by
 rw [World.ownsRow.cellAt h j (by omega),vs_get hj]
theorem Own.frz (h:Own w base e g n c) (j:Nat):w.frozen? ⟨g,j,none⟩=false:=World.ownsRow.frozenAt h j
theorem Own.set (h:Own w base e g n c) (j:Nat) (u:Value):Own (w.setCell ⟨g,j,none⟩ u) base e g n (upd c j u):=by
 have:=(World.ownsRow.stored h j u).1
 rwa [vs_set] at this
theorem Own.congr {d:Nat→Value} (h:Own w base e g n c) (hc:∀j,j < n→c j=d j):Own w base e g n d:=by
 unfold Own at *
 rwa [vs_congr hc] at h
theorem Own.ex {w':World} (h:Own w base e g n c) (hx:Ex w w'):Own w' base e g n c:=ownsRow_ex h hx
theorem Own.drew (h:Own w base e g n c):Own w.drew base e g n c:=h
theorem Own.drewN (h:Own w base e g n c) (k:Nat):Own (w.drewN k) base e g n c:=h.ex ((Ex.refl w).drewN k)
theorem Own.alloc (h:Own w base e g n c) (o:Obj):Own (w.alloc o) base e g n c:=World.ownsRow.alloc h o
theorem Own.lt (h:Own w base e g n c):base≤g∧g < w.heap.size:=World.ownsRow.lt h g rfl
theorem Own.le (h:Own w base e g n c):n≤maxLen:=by
 rcases h.2 with ⟨h',_⟩ | ⟨g',cap',cur,h',_,hg,h1,h2,_⟩
 ·simp at h'
 ·omega
theorem Own.other (h:Own w base e g n c) {a:Addr} (ha:g≠a.block) (u:Value):Own (w.setCell a u) base e g n c:=
 ownsRow_setCell_ne h (fun e=> ha (by simpa [Value.ownBlock] using e)) u
theorem Own.exSet {a:World} (h:Own w base e g n c) (hb:a.heap.size≤base) (hx:Ex a w) (j:Nat) (u:Value):Ex a (w.setCell ⟨g,j,none⟩ u):=
 hx.setCell (p:=⟨g,j,none⟩) (Nat.le_trans hb h.lt.1) u
theorem Own.sl (h:Own w base e g n c):Sl w (.slice (some ⟨g,0,none⟩) n n) n 1 (vs n c):=Sl.own h
theorem Own.mono {b':Nat} (h:Own w base e g n c) (hb:b'≤base):Own w b' e g n c:=by
 refine ⟨h.1,?_⟩;rcases h.2 with h1 | ⟨g',cap,cur,h1,h2,h3⟩
 ·exact .inl h1
 ·exact .inr ⟨g',cap,cur,h1,Nat.le_trans hb h2,h3⟩
end
theorem Own.heap {w:World} {base:Nat} {e:TypeId} {g n:Nat} {c:Nat→Value} (h:Own w base e g n c):w.heap[g]?=some (.cells (vs n c).toArray e (0,0)):=by
 rcases h.2 with ⟨h',_⟩ | ⟨g',cap',cur,h',hb,hg,hnc,hcm,hcs,htake⟩
 ·simp at h'
 ·simp only [Value.slice.injEq,Option.some.injEq,Addr.mk.injEq,and_true,true_and] at h';obtain ⟨rfl,rfl⟩:=h';rw [List.take_of_length_le (by rw [Array.length_toList,hcs];exact Nat.le_refl _)] at htake;rw [hg,←htake]
theorem Own.of_heap {w:World} {base:Nat} {e:TypeId} {g n:Nat} {c:Nat→Value} (h:w.heap[g]?=some (.cells (vs n c).toArray e (0,0))) (hb:base≤g) (hn:n≤maxLen):Own w base e g n c:=
 ⟨by rw [vs_length,Nat.mul_one],.inr ⟨g,n,(vs n c).toArray,rfl,hb,h,Nat.le_refl _,hn,by simp [vs_length],by rw [List.take_of_length_le (by simp [vs_length])]⟩⟩
theorem wpList_make_arr {P:Program} (w:World) {ops:Array Oper} {rest:List Oper} {o:Oper} {a:Act} {Q:Exit→Act→World→Prop}
  (hg:o.guard=none) (l c:Operand) (t:TypeId) (hop:o.op=Op.makeSlice t l c)
  (e:TypeId) (z:Value) (bytes:Nat) (h1:P.underlying t=some (.slice e)) (hi:(P.info? e).map (fun i=> (i.zero,i.size,i.bytes))=some (some z,1,bytes)) (hz:z.cells= #[z])
  (L:Int) (n:Nat) (hl:a.eval l= .int .i64 L) (hc:a.eval c= .int .i64 L) (hL:L=(n:Int)) (b2:bytes * n≤281474976710656) (b3:n≤maxLen)
  (hK:∀w',Own w' w.heap.size e w.heap.size n (fun _=> z)→Ex w w'→wpList P ops Q rest (a.put o.dst (.slice (some ⟨w.heap.size,0,none⟩) n n)) w'):
  wpList P ops Q (o :: rest) a w:=by
 obtain ⟨i,hi0,hz0,hz1,hz2⟩:=info_parts hi;refine wpList_make_full w hg l c t hop w.heap.size e i z 1 h1 hi0 hz0 hz1 .i64 .i64 L L n hl hc hL hL (by rw [hz2];exact b2) b3 (Nat.le_refl _) ?_;intro w' hown hgr;rw [hz,Nat.mul_one,toList_madeCells_one,vs_replicate] at hown;exact hK w' hown (Below.grown (Below.refl _ _) hgr (Nat.le_refl _) (fun k hk=> by cases hk))
def iv (f:Nat→Int):Nat→Value:=fun j=> .int .i64 (f j)
theorem iv_upd (f:Nat→Int) (k:Nat) (y:Int):upd (iv f) k (.int .i64 y)=iv (upd f k y):=by
 funext j;by_cases h:j=k <;> simp [upd,iv,h]
theorem Own.icongr {w:World} {base:Nat} {e:TypeId} {g n:Nat} {f h:Nat→Int} (hf:Own w base e g n (iv f)) (hc:∀j,j < n→f j=h j):Own w base e g n (iv h):=
 hf.congr fun j hj=> congrArg (Value.int .i64) (hc j hj)
def il (n:Nat) (f:Nat→Int):List Int:=(List.range n).map f
theorem il_length (n:Nat) (f:Nat→Int):(il n f).length=n:=by simp [il]
theorem il_get {n j:Nat} (h:j < n) (f:Nat→Int):(il n f)[j]?=some (f j):=by simp [il,h]
theorem ints_il (n:Nat) (f:Nat→Int):ints (il n f)=vs n (iv f):=by simp [ints,il,vs,iv]
theorem Own.isl {w:World} {base:Nat} {e:TypeId} {g n:Nat} {f:Nat→Int} (h:Own w base e g n (iv f)):ISl w (.slice (some ⟨g,0,none⟩) n n) (il n f):=by
 unfold ISl;rw [il_length,ints_il];exact h.sl
def bv (f:Nat→Bool):Nat→Value:=fun j=> .bool (f j)
theorem bv_upd (f:Nat→Bool) (k:Nat) (y:Bool):upd (bv f) k (.bool y)=bv (upd f k y):=by
 funext j;by_cases h:j=k <;> simp [upd,bv,h]
theorem Own.bcongr {w:World} {base:Nat} {e:TypeId} {g n:Nat} {f h:Nat→Bool} (hf:Own w base e g n (bv f)) (hc:∀j,j < n→f j=h j):Own w base e g n (bv h):=
 hf.congr fun j hj=> congrArg Value.bool (hc j hj)
theorem w64_div (y p:Nat) (h:y≤9223372036854775807):wrap64 ((y:Int) / (p:Int))=((y / p:Nat):Int):=by
 have h1:=Nat.div_le_self y p;rw [←Int.natCast_ediv];generalize y / p=q at *;exact w64 (by omega) (by omega)
theorem upd_same {α:Type} (c:Nat→α) (k:Nat) (u:α):upd c k u k=u:=by unfold upd;rw [if_pos rfl]
theorem upd_ne {α:Type} (c:Nat→α) {k j:Nat} (u:α) (h:j≠k):upd c k u j=c j:=by unfold upd;rw [if_neg h]
end
end Go.Proofs.YtgdmlmhpineibaaGreat
