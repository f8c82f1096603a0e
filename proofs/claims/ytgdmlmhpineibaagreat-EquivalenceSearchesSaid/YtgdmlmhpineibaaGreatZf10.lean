/- Walks of the reference of the package field: Inv, Dot. -/
import Derived.Test.YtgdmlmhpineibaaGreatZf03
import Derived.Test.YtgdmlmhpineibaaGreatZf08
import Derived.Test.YtgdmlmhpineibaaGreatZf09
namespace Go.Proofs.YtgdmlmhpineibaaGreat
set_option linter.unusedVariables false
set_option linter.unusedSimpArgs false
set_option maxRecDepth 100000
set_option maxHeartbeats 1000000
section
open Go.RowKit
section
variable {p m:Nat} {ml:List Int} {mv:Value}
theorem kinv_none {z:Nat} (h:∀y,1≤y→y < p ^ m→kmul p m (lw ml) z y≠1):kinv p m ml z=0:=by
 unfold kinv;rcases hf:(List.range (p ^ m)).find? (fun y=> decide (1≤y) && kmul p m (lw ml) z y==1) with _ | i
 ·rfl
 ·exfalso;have h1:=List.find?_some hf;have h2:=List.mem_range.1 (List.mem_of_find?_eq_some hf);simp at h1;exact h i h1.1 h2 h1.2
theorem kinv_first {z y:Nat} (h1:1≤y) (h2:y < p ^ m) (h3:kmul p m (lw ml) z y=1) (h:∀c,1≤c→c < y→kmul p m (lw ml) z c≠1):kinv p m ml z=y:=by
 unfold kinv;rcases hf:(List.range (p ^ m)).find? (fun y=> decide (1≤y) && kmul p m (lw ml) z y==1) with _ | i
 ·exfalso;have:=List.find?_eq_none.1 hf y (List.mem_range.2 h2);simp [h1,h3] at this
 ·have k1:=List.find?_some hf;simp at k1;rcases Nat.lt_trichotomy i y with e | e | e
  ·exact absurd k1.2 (h i k1.1 e)
  ·exact e
  ·exfalso;have:=List.not_of_lt_findIdx (p:=fun y=> decide (1≤y) && kmul p m (lw ml) z y==1) (xs:=List.range (p ^ m)) (i:=y) (by
    rcases Nat.lt_or_ge y (List.findIdx (fun y=> decide (1≤y) && kmul p m (lw ml) z y==1) (List.range (p ^ m))) with a | a
    ·exact a
    ·exfalso;have hk:List.findIdx (fun y=> decide (1≤y) && kmul p m (lw ml) z y==1) (List.range (p ^ m)) < (List.range (p ^ m)).length:=by simp;omega
     have hq:=List.find?_eq_some_iff_getElem.1 hf;obtain ⟨_,j,hj,e1,e2⟩:=hq;simp at e1;subst e1;have:=e2 y (by omega);simp [h1,h3] at this)
   simp [h1,h3] at this
theorem rInv_any (w:World) (hf:FSh p m ml) (hmv:ISl w mv ml) (x:Int):
  Calls Tryz.prog 41 #[.agg #[.int .i64 p,.int .i64 m,mv],.int .i64 x] w fun r w'=> r= .returned (.int .i64 (kinv p m ml (kin (p ^ m) x):Nat))∧Ex w w':=by
 obtain ⟨d0,d1,d2,e0,hsz⟩:=box_facts w p m mv;have hor:=hf.ord;have hq:=hf.q;have HOR:=hid_ (fun w=> by have:=rOrder_any p m mv w;rw [hor] at this;exact this);have HM:=hid_ (fun w y (h:ISl w mv ml)=> rMul_any w hf h x y);have HMV:=hid_ hmv;have HN:=hid_ (kinv_none (p:=p) (m:=m) (ml:=ml) (z:=kin (p ^ m) x));have HF:=hid_ (fun y h1 h2 h3 h=> kinv_first (p:=p) (m:=m) (ml:=ml) (z:=kin (p ^ m) x) (y:=y) h1 h2 h3 h);have HKI:=hid_ (fun y (h:y < p ^ m)=> kin_of h);generalize kin (p ^ m) x=z at *;obtain ⟨q,hqq⟩:∃q,p ^ m=q:=⟨_,rfl⟩;simp only [hqq] at hq HOR HM HN HF HKI;clear hf hmv hqq hor hsz;go_enter Tryz.func41,Tryz.ntmps41
 go_wp2_with fail
 generalize w.alloc (.cells #[.int .i64 p,.int .i64 m,mv] 24)=w1 at *
 go_loopw [5] (fun y' wr=> ∃y:Nat,1≤y∧y'= .int .i64 y∧Hid (∀c,1≤c→c < y→kmul p m (lw ml) z c≠1)∧y≤300∧Ex w1 wr) (fun y' _=> 300 - (intOf y').toNat)
 case atStart=> exact ⟨1,by omega,rfl,hid_ (fun c a b=> by omega),by omega,Ex.refl _⟩
 case round=>
  obtain ⟨y,hy,rfl,hall,hy3,hx⟩:=hrel;have r0:=hx.cell d0;have r1:=hx.cell d1;have r2:=hx.cell d2;go_wp2_with fail
  refine (HOR.out _).mono ?_;rintro e w2 ⟨rfl,hx2⟩;have s0:=hx2.cell r0;have s1:=hx2.cell r1;have s2:=hx2.cell r2;by_cases hlt:y < q
  ·go_wp2_with fail
   refine (HM.out _ _ (HMV.out.ex (e0.trans (hx.trans hx2)))).mono ?_;rw [HKI.out y hlt];rintro e w3 ⟨rfl,hx3⟩;by_cases h1:kmul p m (lw ml) z y=1
   ·have hb:(((kmul p m (lw ml) z y:Nat):Int)==1)=true:=by simp;omega
    have HR:=hid_ (HF.out y hy hlt h1 hall.out);clear h1;generalize kmul p m (lw ml) z y=kz at *;go_wp2_with fail
    go_ret;exact ⟨ret_int (by rw [HR.out]),e0.trans ((hx.trans hx2).trans hx3)⟩
   ·have hb:(((kmul p m (lw ml) z y:Nat):Int)==1)=false:=by simp;omega
    have HA:=hid_ (show ∀c,1≤c→c < y + 1→kmul p m (lw ml) z c≠1 from fun c a b=> by
     by_cases e:c=y
     ·subst e;exact h1
     ·exact hall.out c a (by omega))
    clear h1;generalize kmul p m (lw ml) z y=kz at *;go_wp2_with fail
    go_roundw
    case rel=> exact ⟨y + 1,by omega,by go_num,HA,by omega,(hx.trans hx2).trans hx3⟩
    case measure=> simp [intOf];omega
  ·have HR:=hid_ (HN.out fun c a b=> hall.out c a (by omega));go_wp2_with fail
   go_ret;exact ⟨ret_int (by rw [HR.out];rfl),e0.trans (hx.trans hx2)⟩
end
end
section
open Go.RowKit
def OwnC (w:World) (base:Nat) (e:TypeId) (g n cap:Nat) (c:Nat→Value):Prop:=w.ownsRow base e 1 (.slice (some ⟨g,0,none⟩) n cap) n (vs n c)
section
variable {w:World} {base:Nat} {e:TypeId} {g n cap:Nat} {c:Nat→Value}
theorem OwnC.cell (h:OwnC w base e g n cap c) {j:Nat} (hj:j < n):w.cell? ⟨g,j,none⟩=some (c j):=by
 rw [World.ownsRow.cellAt h j (by omega),vs_get hj]
theorem OwnC.frz (h:OwnC w base e g n cap c) (j:Nat):w.frozen? ⟨g,j,none⟩=false:=World.ownsRow.frozenAt h j
theorem OwnC.set (h:OwnC w base e g n cap c) (j:Nat) (u:Value):OwnC (w.setCell ⟨g,j,none⟩ u) base e g n cap (upd c j u):=by
 have:=(World.ownsRow.stored h j u).1
 rwa [vs_set] at this
theorem OwnC.congr {d:Nat→Value} (h:OwnC w base e g n cap c) (hc:∀j,j < n→c j=d j):OwnC w base e g n cap d:=by
 unfold OwnC at *
 rwa [vs_congr hc] at h
theorem OwnC.icongr {f k:Nat→Int} (h:OwnC w base e g n cap (iv f)) (hc:∀j,j < n→f j=k j):OwnC w base e g n cap (iv k):=
 h.congr fun j hj=> congrArg (Value.int .i64) (hc j hj)
theorem OwnC.ex {w':World} (h:OwnC w base e g n cap c) (hx:Ex w w'):OwnC w' base e g n cap c:=ownsRow_ex h hx
theorem OwnC.drew (h:OwnC w base e g n cap c):OwnC w.drew base e g n cap c:=h
theorem OwnC.drewN (h:OwnC w base e g n cap c) (k:Nat):OwnC (w.drewN k) base e g n cap c:=h.ex ((Ex.refl w).drewN k)
theorem OwnC.lt (h:OwnC w base e g n cap c):base≤g∧g < w.heap.size:=World.ownsRow.lt h g rfl
theorem OwnC.caps (h:OwnC w base e g n cap c):n≤cap∧cap≤maxLen:=by
 rcases h.2 with ⟨h',_⟩ | ⟨g',cap',cur,h',_,hg,h1,h2,_⟩
 ·simp at h'
 ·simp only [Value.slice.injEq,Option.some.injEq,Addr.mk.injEq,and_true,true_and] at h';obtain ⟨_,rfl⟩:=h';exact ⟨h1,h2⟩
theorem OwnC.other (h:OwnC w base e g n cap c) {a:Addr} (ha:g≠a.block) (u:Value):OwnC (w.setCell a u) base e g n cap c:=
 ownsRow_setCell_ne h (fun e=> ha (by simpa [Value.ownBlock] using e)) u
theorem OwnC.exSet {a:World} (h:OwnC w base e g n cap c) (hb:a.heap.size≤base) (hx:Ex a w) (j:Nat) (u:Value):Ex a (w.setCell ⟨g,j,none⟩ u):=
 hx.setCell (p:=⟨g,j,none⟩) (Nat.le_trans hb h.lt.1) u
theorem OwnC.sl (h:OwnC w base e g n cap c):Sl w (.slice (some ⟨g,0,none⟩) n cap) n 1 (vs n c):=Sl.own h
theorem OwnC.isl {f:Nat→Int} (h:OwnC w base e g n cap (iv f)):ISl w (.slice (some ⟨g,0,none⟩) n cap) (il n f):=by
 unfold ISl;rw [il_length,ints_il];exact h.sl
theorem ownC_of {v:Value} (h:w.ownsRow base e 1 v n (vs n c)) (hn:1≤n):∃g cap,v= .slice (some ⟨g,0,none⟩) n cap∧OwnC w base e g n cap c:=by
 rcases h.2 with ⟨_,h0⟩ | ⟨g,cap,cur,rfl,_⟩
 ·omega
 ·exact ⟨g,cap,rfl,h⟩
end
end
section
open Go.RowKit
def rgnH (n:Nat):List Oper→Nat→List Nat→Bool
 | [],_,_=> true
 | o :: l,k,seen=> (o.after.all fun e=> !Region.binds .any e || decide (e.on < k)) && (match o.dst with
  | none=> rgnH n l (k + 1) seen
  | some d=> decide (d < n) && !seen.contains d && rgnH n l (k + 1) (d :: seen))
structure RgnOW (ops:Array Oper) (n:Nat):Prop where
 wait:∀(i:Nat) (o:Oper),ops[i]?=some o→∀e∈o.after,Region.binds .any e=true→(e:Edge).on < i
 lt:∀(i:Nat) (o:Oper) (d:Nat),ops[i]?=some o→o.dst=some d→d < n
 inj:∀(i j:Nat) (oi oj:Oper) (d:Nat),ops[i]?=some oi→ops[j]?=some oj→oi.dst=some d→oj.dst=some d→i=j
theorem rgnH_spec (n:Nat):∀(l:List Oper) (k:Nat) (seen:List Nat),rgnH n l k seen=true→∀(i:Nat) (o:Oper),l[i]?=some o→
  (∀e∈o.after,Region.binds .any e=true→e.on < k + i)∧∀d,o.dst=some d→d < n∧d ∉ seen∧∀j oj,j < i→l[j]?=some oj→oj.dst≠some d
 | [],_,_,_,i,o,h=> by simp at h
 | o :: l,k,seen,h,i,o',hi=> by
  unfold rgnH at h;rw [Bool.and_eq_true] at h;obtain ⟨h2,h3⟩:=h
  cases i with
  | zero=>
   simp at hi;subst hi;refine ⟨fun e he hb=> ?_,fun d hd=> ?_⟩
   ·rw [Array.all_eq_true_iff_forall_mem] at h2;have:=h2 e he;rw [hb] at this;simpa using this
   ·rw [hd] at h3;simp only [Bool.and_eq_true] at h3;refine ⟨by simpa using h3.1.1,by simpa using h3.1.2,fun j oj hj=> by omega⟩
  | succ i=>
   simp at hi
   cases hdo:o.dst with
   | none=>
    rw [hdo] at h3;obtain ⟨b,c⟩:=rgnH_spec n l (k + 1) seen h3 i o' hi;refine ⟨fun e he hb=> by have:=b e he hb;omega,fun d hd=> ?_⟩;obtain ⟨c1,c2,c3⟩:=c d hd;refine ⟨c1,c2,fun j oj hj ho=> ?_⟩
    cases j with
    | zero=> simp at ho;subst ho;rw [hdo];simp
    | succ j=> simp at ho;exact c3 j oj (by omega) ho
   | some d0=>
    rw [hdo] at h3;simp only [Bool.and_eq_true] at h3;obtain ⟨b,c⟩:=rgnH_spec n l (k + 1) (d0 :: seen) h3.2 i o' hi;refine ⟨fun e he hb=> by have:=b e he hb;omega,fun d hd=> ?_⟩;obtain ⟨c1,c2,c3⟩:=c d hd;refine ⟨c1,fun h=> c2 (List.mem_cons_of_mem _ h),fun j oj hj ho=> ?_⟩
    cases j with
    | zero=>
     simp at ho;subst ho;rw [hdo];intro e;injection e with e;exact c2 (by rw [e];exact List.mem_cons_self ..)
    | succ j=> simp at ho;exact c3 j oj (by omega) ho
theorem rgn_ow {l:List Oper} {n:Nat} (h:rgnH n l 0 []=true):RgnOW l.toArray n:=by
 have key:=rgnH_spec n l 0 [] h;have hg:∀(i:Nat) o,l.toArray[i]?=some o→l[i]?=some o:=fun i o h=> by simpa using h
 refine ⟨fun i o ho e he hb=> by have:=(key i o (hg i o ho)).1 e he hb;omega,fun i o d ho hd=> ((key i o (hg i o ho)).2 d hd).1,fun i j oi oj d hi hj h1 h2=> ?_⟩;rcases Nat.lt_trichotomy i j with e | e | e
 ·exact absurd h1 (((key j oj (hg j oj hj)).2 d h2).2.2 i oi e (hg i oi hi))
 ·exact e
 ·exact absurd h2 (((key i oi (hg i oi hi)).2 d h1).2.2 j oj e (hg j oj hj))
section
variable {ops:Array Oper} {a0 a a':Act} {L L':Nat→Bool} {vals:Nat→Value}
theorem RFr.stepW (H:RgnOW ops a0.tmps.size) (h:RFr ops a0 L vals a) {i:Nat} {o:Oper} (ho:ops[i]?=some o) (v:Value):RFr ops a0 (upd L i true) (upd vals i v) (a.put o.dst v):=by
 cases hd:o.dst with
 | none=>
  refine ⟨h.sz,h.df,fun j oj d hj hoj hdj=> ?_,fun s hn=> h.old s fun j oj hj hoj=> ?_⟩
  ·by_cases e:j=i
   ·subst e;rw [ho] at hoj;injection hoj with hoj;subst hoj;rw [hd] at hdj;cases hdj
   ·rw [upd_ne _ _ e] at hj ⊢;exact h.got j oj d hj hoj hdj
  ·by_cases e:j=i
   ·subst e;rw [ho] at hoj;injection hoj with hoj;subst hoj;rw [hd];simp
   ·exact hn j oj (by rw [upd_ne _ _ e];exact hj) hoj
 | some d0=>
  have hlt:d0 < a.tmps.size:=by rw [h.sz];exact H.lt i o d0 ho hd
  refine ⟨by show (a.tmps.setIfInBounds d0 v).size=_;rw [Array.size_setIfInBounds];exact h.sz,h.df,fun j oj d hj hoj hdj=> ?_,fun s hn=> ?_⟩
  ·show (a.tmps.setIfInBounds d0 v)[d]?=_
   by_cases e:j=i
   ·subst e;rw [ho] at hoj;injection hoj with hoj;subst hoj;rw [hd] at hdj;injection hdj with hdj;subst hdj;rw [Array.getElem?_setIfInBounds_self_of_lt hlt,upd_same]
   ·have hne:d0≠d:=fun e2=> e (H.inj j i oj o d hoj ho hdj (by rw [hd,e2]));rw [Array.getElem?_setIfInBounds_ne hne,upd_ne _ _ e];rw [upd_ne _ _ e] at hj;exact h.got j oj d hj hoj hdj
  ·show (a.tmps.setIfInBounds d0 v)[s]?=_
   have hne:d0≠s:=fun e2=> hn i o (upd_same _ _ _) ho (by rw [hd,e2]);rw [Array.getElem?_setIfInBounds_ne hne];exact h.old s fun j oj hj hoj=> by
    by_cases e:j=i
    ·subst e;rw [ho] at hoj;injection hoj with hoj;subst hoj;rw [hd];intro e2;injection e2 with e2;exact hne e2
    ·exact hn j oj (by rw [upd_ne _ _ e];exact hj) hoj
end
theorem RFr.putKW {l0:List Oper} {a0:Act} (H:RgnOW l0.toArray a0.tmps.size) (vals:Nat→Value):∀(l pre:List Oper) (a:Act),pre ++ l=l0→RFr l0.toArray a0 (fun i=> decide (i < pre.length)) vals a→RFr l0.toArray a0 (fun i=> decide (i < l0.length)) vals (Go.Proofs.YtgdmlmhpineibaaGreat.putK l vals pre.length a)
 | [],pre,a,he,h=> by
  rw [List.append_nil] at he;subst he;exact h
 | o :: l,pre,a,he,h=> by
  have ho:l0.toArray[pre.length]?=some o:=by rw [←he];simp
  have h1:=h.stepW H ho (vals pre.length);have e1:upd (fun i=> decide (i < pre.length)) pre.length true=fun i=> decide (i < (pre ++ [o]).length):=by
   funext i;by_cases e:i=pre.length
   ·subst e;rw [upd_same];simp
   ·rw [upd_ne _ _ e];simp;omega
  have e2:upd vals pre.length (vals pre.length)=vals:=by
   funext i;by_cases e:i=pre.length
   ·subst e;rw [upd_same]
   ·rw [upd_ne _ _ e]
  rw [e1,e2] at h1;have h2:=RFr.putKW H vals l (pre ++ [o]) (a.put o.dst (vals pre.length)) (by rw [←he];simp) h1;rw [List.length_append] at h2;exact h2
section
variable {P:Program} {Q:Exit→Act→World→Prop} {J:(Nat→Bool)→(Nat→Value)→World→Prop} {a0:Act}
def OpSw (P:Program) (Q:Exit→Act→World→Prop) (J:(Nat→Bool)→(Nat→Value)→World→Prop) (ops:Array Oper) (a0:Act) (i:Nat) (o:Oper):Prop:=
 ∀L vals a w,RFr ops a0 L vals a→J L vals w→L i=false→(∀e∈o.after,Region.binds .any e=true→L e.on=true)→(∀(k:Nat) (o':Oper),L k=true→ops[k]?=some o'→∀e∈o'.after,Region.binds .any e=true→L e.on=true)→
  ∀K:Act→World→Prop,(∀v w',J (upd L i true) (upd vals i v) w'→K (a.put o.dst v) w')→if Region.wanted o (yielded ops a.tmps)=true then o.wp P a w K Q else K (a.put o.dst undef) w
theorem rgn_anyW {l:List Oper} (H:RgnOW l.toArray a0.tmps.size) (hs:StepAll (OpSw P Q J l.toArray a0) l 0)
  (he:∀L vals w,(∀i,i < l.length→L i=true)→J L vals w→Q .normal (putK l vals 0 a0) w):
  ∀fuel (listed:Array Bool) a w vals,listed.size=l.length→(List.range l.length).countP (fun i=> !listed.getD i false)≤fuel→(∀(k:Nat) (o':Oper),listed.getD k false=true→l.toArray[k]?=some o'→∀e∈o'.after,Region.binds .any e=true→listed.getD e.on false=true)→RFr l.toArray a0 (fun i=> listed.getD i false) vals a→J (fun i=> listed.getD i false) vals w→wpAny P .any l.toArray Q fuel listed a w:=by
 have hend:∀(listed:Array Bool) a w vals,listed.size=l.length→(∀i,i < l.length→listed.getD i false=true)→RFr l.toArray a0 (fun i=> listed.getD i false) vals a→J (fun i=> listed.getD i false) vals w→Q .normal a w:=fun listed a w vals hsz hall hf hj=> by
  have h1:=he _ vals w hall hj;have h2:=RFr.putKW H vals l [] a0 rfl ((RFr.init l.toArray a0 vals).congr fun i hi=> by simp);have h3:=hf.uniq (h2.congr fun i hi=> by
   have hi':i < l.length:=by simpa using hi
   simp only [hi',decide_true];exact (hall i hi').symm)
  rw [h3];exact h1
 have hall:∀(listed:Array Bool),listed.size=l.length→Region.ready .any l.toArray listed= []→∀i,i < l.length→listed.getD i false=true:=fun listed hsz hr i=> by
  induction i using Nat.strongRecOn with
  | ind i ih=>
   intro hi
   cases hb:listed.getD i false with
   | true=> rfl
   | false=>
    exfalso;have ho:l.toArray[i]?=some l[i]:=by simp [hi]
    have hm:i∈Region.ready .any l.toArray listed:=mem_ready.2 ⟨by
     have hlt:i < listed.size:=by omega
     simp [Array.getD,hlt] at hb ⊢;exact hb,l[i],ho,fun e hem hb=> by
     have hw:=H.wait i _ ho e hem hb;exact ih e.on hw (by omega)⟩
    rw [hr] at hm;cases hm
 intro fuel
 induction fuel with
 | zero=>
  intro listed a w vals hsz hc hcl hf hj;have ha:∀i,i < l.length→listed.getD i false=true:=fun i hi=> by
   have h0:(List.range l.length).countP (fun i=> !listed.getD i false)=0:=by omega
   have:=List.countP_eq_zero.1 h0 i (List.mem_range.2 hi);simpa using this
  refine ⟨?_,hend listed a w vals hsz ha hf hj⟩
  cases hr:Region.ready .any l.toArray listed with
  | nil=> rfl
  | cons x t=>
   exfalso;have hm:x∈Region.ready .any l.toArray listed:=by rw [hr];exact List.mem_cons_self ..
   obtain ⟨h1,o,h2,_⟩:=mem_ready.1 hm;have hx:x < l.length:=by simpa using (Array.getElem?_eq_some_iff.1 h2).1
   have h3:=ha x hx;have hlt:x < listed.size:=by omega
   simp [Array.getD,hlt] at h1 h3;rw [h1] at h3;cases h3
 | succ fuel ih=>
  intro listed a w vals hsz hc hcl hf hj;refine ⟨fun hr=> hend listed a w vals hsz (hall listed hsz hr) hf hj,fun i hi=> ?_⟩;obtain ⟨h1,o,h2,h3⟩:=mem_ready.1 hi;have hil:i < l.length:=by simpa using (Array.getElem?_eq_some_iff.1 h2).1
  have hlt:i < listed.size:=by omega
  have hfl:listed.getD i false=false:=by
   simp [Array.getD,hlt] at h1 ⊢;exact h1
  have h2':l[i]?=some o:=by simpa using h2
  have hst:OpSw P Q J l.toArray a0 (0 + i) o:=hs.get h2';rw [Nat.zero_add] at hst;have hLe:(fun j=> (listed.setIfInBounds i true).getD j false)=upd (fun j=> listed.getD j false) i true:=by
   funext j;by_cases e:j=i
   ·subst e;rw [upd_same];simp [Array.getD,hlt]
   ·rw [upd_ne _ _ e];rw [Array.getD_eq_getD_getElem?,Array.getD_eq_getD_getElem?,Array.getElem?_setIfInBounds_ne (fun h=> e h.symm)]
  have hcl':∀(k:Nat) (o':Oper),(listed.setIfInBounds i true).getD k false=true→l.toArray[k]?=some o'→∀e∈o'.after,Region.binds .any e=true→(listed.setIfInBounds i true).getD e.on false=true:=fun k o' hk ho' e he hb=> by
   have e1:=congrFun hLe k;have e2:=congrFun hLe e.on;rw [e1] at hk;rw [e2];by_cases h0:e.on=i
   ·rw [h0,upd_same]
   ·rw [upd_ne _ _ h0];by_cases h4:k=i
    ·subst h4;rw [h2] at ho';injection ho' with ho';subst ho';exact h3 e he hb
    ·rw [upd_ne _ _ h4] at hk;exact hcl k o' hk ho' e he hb
  have hnext:∀v w',J (upd (fun j=> listed.getD j false) i true) (upd vals i v) w'→wpAny P .any l.toArray Q fuel (listed.setIfInBounds i true) (a.put o.dst v) w':=fun v w' hj'=> by
   refine ih _ _ _ (upd vals i v) (by rw [Array.size_setIfInBounds];exact hsz) ?_ hcl' (by rw [hLe];exact hf.stepW H h2 v) (by rw [hLe];exact hj');have hcc:=cnt_upd (fun j=> listed.getD j false) i hfl l.length;rw [if_pos hil] at hcc;have hce:(List.range l.length).countP (fun j=> !(listed.setIfInBounds i true).getD j false)=(List.range l.length).countP (fun j=> !(upd (fun j=> listed.getD j false) i true) j):=by
    congr 1
    funext j;rw [←congrFun hLe j]
   rw [hce];omega
  have hcase:=hst _ vals a w hf hj hfl (fun e he hb=> h3 e he hb) hcl _ hnext;unfold wpOp;rw [h2];by_cases hw:Region.wanted o (yielded l.toArray a.tmps)=true
  ·rw [if_pos hw] at hcase;simp only [hw,if_true];exact .inl hcase
  ·rw [if_neg hw] at hcase;simp only [hw];exact hcase
theorem wp_region_invW {id:Nat} {l:List Oper} {w:World} (J:(Nat→Bool)→(Nat→Value)→World→Prop) (hm:P.follows .mixedOrders=true) (hB:rgnH a0.tmps.size l 0 []=true) (h0:J (fun _=> false) (fun _=> undef) w.drew)
  (hs:StepAll (OpSw P Q J l.toArray a0) l 0) (he:∀L vals w,(∀i,i < l.length→L i=true)→J L vals w→Q .normal (putK l vals 0 a0) w):(Code.region id l.toArray true).wp P Q a0 w:=by
 refine wp_region_any hm ?_;have hL:(fun i=> (Array.replicate l.toArray.size false).getD i false)=fun _=> false:=by
  funext i;rw [Array.getD_eq_getD_getElem?];by_cases h:i < l.toArray.size
  ·rw [Array.getElem?_replicate,if_pos h];rfl
  ·rw [Array.getElem?_replicate,if_neg h];rfl
 refine rgn_anyW (rgn_ow hB) hs he _ _ _ _ (fun _=> undef) (by simp) (Nat.le_trans List.countP_le_length (by simp)) (fun k o' hk=> by have:=congrFun hL k;rw [this] at hk;cases hk) ?_ ?_
 ·rw [hL];exact RFr.init _ _ _
 ·rw [hL];exact h0
theorem wp_region_invL {id:Nat} {l:List Oper} {w:World} (J:(Nat→Bool)→(Nat→Value)→World→Prop) (hm:P.follows .mixedOrders=true) (hB:rgnH a0.tmps.size l 0 []=true) (hG:(l.all fun o=> o.guard.isNone)=true) (h0:J (fun _=> false) (fun _=> undef) w.drew)
  (hs:StepAll (OpSt P Q J l.toArray a0) l 0) (he:∀L vals w,(∀i,i < l.length→L i=true)→J L vals w→Q .normal (putK l vals 0 a0) w):(Code.region id l.toArray true).wp P Q a0 w:=by
 refine wp_region_invW J hm hB h0 ?_ he;have key:∀(l':List Oper) (k0:Nat),(∀o∈l',o.guard=none)→StepAll (OpSt P Q J l.toArray a0) l' k0→StepAll (OpSw P Q J l.toArray a0) l' k0:=fun l'=> by
  induction l' with
  | nil=> intro _ _ _;trivial
  | cons o l' ih=>
   intro k0 hg h;refine ⟨?_,ih (k0 + 1) (fun o' ho=> hg o' (List.mem_cons_of_mem _ ho)) h.2⟩;intro L V a w' hf hj hi hd hcl K hK;have hgd:=hg o List.mem_cons_self;rw [if_pos (by simp [Region.wanted,hgd])];exact h.1 L V a w' hf hj hi hd hcl K hK
 exact key l 0 (fun o ho=> by have:=List.all_eq_true.1 hG o ho;simpa using this) hs
end
end
end Go.Proofs.YtgdmlmhpineibaaGreat
