/- A region that draws its order, by one invariant: each operation is shown once, whatever has come up before it. -/
import Derived.Test.YtgdmlmhpineibaaGreatZg03
namespace Go.Proofs.YtgdmlmhpineibaaGreat
set_option linter.unusedVariables false
set_option linter.unusedSimpArgs false
open Go.RowKit
def rgnG (n:Nat):List Oper→Nat→List Nat→Bool
 | [],_,_=> true
 | o :: l,k,seen=> o.guard.isNone && (o.after.all fun e=> decide (e.on < k)) && (match o.dst with
  | none=> rgnG n l (k + 1) seen
  | some d=> decide (d < n) && !seen.contains d && rgnG n l (k + 1) (d :: seen))
structure RgnOK (ops:Array Oper) (n:Nat):Prop where
 free:∀(i:Nat) (o:Oper),ops[i]?=some o→o.guard=none
 wait:∀(i:Nat) (o:Oper),ops[i]?=some o→∀e∈o.after,(e:Edge).on < i
 lt:∀(i:Nat) (o:Oper) (d:Nat),ops[i]?=some o→o.dst=some d→d < n
 inj:∀(i j:Nat) (oi oj:Oper) (d:Nat),ops[i]?=some oi→ops[j]?=some oj→oi.dst=some d→oj.dst=some d→i=j
theorem rgnG_spec (n:Nat):∀(l:List Oper) (k:Nat) (seen:List Nat),rgnG n l k seen=true→∀(i:Nat) (o:Oper),l[i]?=some o→
  o.guard=none∧(∀e∈o.after,e.on < k + i)∧∀d,o.dst=some d→d < n∧d ∉ seen∧∀j oj,j < i→l[j]?=some oj→oj.dst≠some d
 | [],_,_,_,i,o,h=> by simp at h
 | o :: l,k,seen,h,i,o',hi=> by
  unfold rgnG at h;rw [Bool.and_eq_true,Bool.and_eq_true] at h;obtain ⟨⟨h1,h2⟩,h3⟩:=h
  cases i with
  | zero=>
   simp at hi;subst hi;refine ⟨by simpa using h1,fun e he=> ?_,fun d hd=> ?_⟩
   ·rw [Array.all_eq_true_iff_forall_mem] at h2;have:=h2 e he;simpa using this
   ·rw [hd] at h3;simp only [Bool.and_eq_true] at h3;refine ⟨by simpa using h3.1.1,by simpa using h3.1.2,fun j oj hj=> by omega⟩
  | succ i=>
   simp at hi
   cases hdo:o.dst with
   | none=>
    rw [hdo] at h3;obtain ⟨a,b,c⟩:=rgnG_spec n l (k + 1) seen h3 i o' hi;refine ⟨a,fun e he=> by have:=b e he;omega,fun d hd=> ?_⟩;obtain ⟨c1,c2,c3⟩:=c d hd;refine ⟨c1,c2,fun j oj hj ho=> ?_⟩
    cases j with
    | zero=> simp at ho;subst ho;rw [hdo];simp
    | succ j=> simp at ho;exact c3 j oj (by omega) ho
   | some d0=>
    rw [hdo] at h3;simp only [Bool.and_eq_true] at h3;obtain ⟨a,b,c⟩:=rgnG_spec n l (k + 1) (d0 :: seen) h3.2 i o' hi;refine ⟨a,fun e he=> by have:=b e he;omega,fun d hd=> ?_⟩;obtain ⟨c1,c2,c3⟩:=c d hd;refine ⟨c1,fun h=> c2 (List.mem_cons_of_mem _ h),fun j oj hj ho=> ?_⟩
    cases j with
    | zero=>
     simp at ho;subst ho;rw [hdo];intro e;injection e with e;exact c2 (by rw [e];exact List.mem_cons_self ..)
    | succ j=> simp at ho;exact c3 j oj (by omega) ho
theorem rgn_ok {l:List Oper} {n:Nat} (h:rgnG n l 0 []=true):RgnOK l.toArray n:=by
 have key:=rgnG_spec n l 0 [] h;have hg:∀(i:Nat) o,l.toArray[i]?=some o→l[i]?=some o:=fun i o h=> by simpa using h
 refine ⟨fun i o ho=> (key i o (hg i o ho)).1,fun i o ho e he=> by have:=(key i o (hg i o ho)).2.1 e he;omega,fun i o d ho hd=> ((key i o (hg i o ho)).2.2 d hd).1,fun i j oi oj d hi hj h1 h2=> ?_⟩;rcases Nat.lt_trichotomy i j with e | e | e
 ·exact absurd h1 (((key j oj (hg j oj hj)).2.2 d h2).2.2 i oi e (hg i oi hi))
 ·exact e
 ·exact absurd h2 (((key i oi (hg i oi hi)).2.2 d h1).2.2 j oj e (hg j oj hj))
structure RFr (ops:Array Oper) (a0:Act) (L:Nat→Bool) (vals:Nat→Value) (a:Act):Prop where
 sz:a.tmps.size=a0.tmps.size
 df:a.defers=a0.defers
 got:∀(i:Nat) (o:Oper) (d:Nat),L i=true→ops[i]?=some o→o.dst=some d→a.tmps[d]?=some (vals i)
 old:∀(s:Nat),(∀(i:Nat) (o:Oper),L i=true→ops[i]?=some o→o.dst≠some s)→a.tmps[s]?=a0.tmps[s]?
section
variable {ops:Array Oper} {a0 a a':Act} {L L':Nat→Bool} {vals:Nat→Value}
theorem RFr.congr (h:RFr ops a0 L vals a) (hL:∀i,i < ops.size→L i=L' i):RFr ops a0 L' vals a:=by
 have hs:∀i o,ops[i]?=some o→i < ops.size:=fun i o h=> (Array.getElem?_eq_some_iff.1 h).1;exact ⟨h.sz,h.df,fun i o d hi ho hd=> h.got i o d (by rw [hL i (hs i o ho)];exact hi) ho hd,fun s hn=> h.old s fun i o hi ho=> hn i o (by rw [←hL i (hs i o ho)];exact hi) ho⟩
theorem RFr.uniq (h:RFr ops a0 L vals a) (k:RFr ops a0 L vals a'):a=a':=by
 have h1:a.tmps=a'.tmps:=by
  apply Array.ext_getElem?;intro s;by_cases hs:∃i o,L i=true∧ops[i]?=some o∧o.dst=some s
  ·obtain ⟨i,o,h1,h2,h3⟩:=hs;rw [h.got i o s h1 h2 h3,k.got i o s h1 h2 h3]
  ·rw [h.old s fun i o h1 h2 h3=> hs ⟨i,o,h1,h2,h3⟩,k.old s fun i o h1 h2 h3=> hs ⟨i,o,h1,h2,h3⟩]
 have h2:a.defers=a'.defers:=h.df.trans k.df.symm;cases a;cases a'
 simp only at h1 h2;subst h1 h2;rfl
theorem RFr.step (H:RgnOK ops a0.tmps.size) (h:RFr ops a0 L vals a) {i:Nat} {o:Oper} (ho:ops[i]?=some o) (v:Value):RFr ops a0 (upd L i true) (upd vals i v) (a.put o.dst v):=by
 cases hd:o.dst with
 | none=>
  refine ⟨h.sz,h.df,fun j oj d hj hoj hdj=> ?_,fun s hn=> h.old s fun j oj hj hoj=> ?_⟩
  ·by_cases e:j=i
   ·subst e;rw [ho] at hoj;injection hoj with hoj;subst hoj;rw [hd] at hdj;cases hdj
   ·rw [upd_ne _ _ e] at hj ⊢;exact h.got j oj d hj hoj hdj
  ·by_cases e:j=i
   ·subst e;rw [ho] at hoj;injection hoj with hoj;subst hoj;rw [hd];simp
   ·exact hn j oj (by rw [upd_ne _ _ e];exact hj) hoj
 | some d0=>
  have hlt:d0 < a.tmps.size:=by rw [h.sz];exact H.lt i o d0 ho hd
  refine ⟨by show (a.tmps.setIfInBounds d0 v).size=_;rw [Array.size_setIfInBounds];exact h.sz,h.df,fun j oj d hj hoj hdj=> ?_,fun s hn=> ?_⟩
  ·show (a.tmps.setIfInBounds d0 v)[d]?=_
   by_cases e:j=i
   ·subst e;rw [ho] at hoj;injection hoj with hoj;subst hoj;rw [hd] at hdj;injection hdj with hdj;subst hdj;rw [Array.getElem?_setIfInBounds_self_of_lt hlt,upd_same]
   ·have hne:d0≠d:=fun e2=> e (H.inj j i oj o d hoj ho hdj (by rw [hd,e2]));rw [Array.getElem?_setIfInBounds_ne hne,upd_ne _ _ e];rw [upd_ne _ _ e] at hj;exact h.got j oj d hj hoj hdj
  ·show (a.tmps.setIfInBounds d0 v)[s]?=_
   have hne:d0≠s:=fun e2=> hn i o (upd_same _ _ _) ho (by rw [hd,e2]);rw [Array.getElem?_setIfInBounds_ne hne];exact h.old s fun j oj hj hoj=> by
    by_cases e:j=i
    ·subst e;rw [ho] at hoj;injection hoj with hoj;subst hoj;rw [hd];intro e2;injection e2 with e2;exact hne e2
    ·exact hn j oj (by rw [upd_ne _ _ e];exact hj) hoj
def putK (ops:List Oper) (vals:Nat→Value):Nat→Act→Act:=match ops with
 | []=> fun _ a=> a
 | o :: l=> fun k a=> putK l vals (k + 1) (a.put o.dst (vals k))
end
theorem RFr.init (ops:Array Oper) (a0:Act) (vals:Nat→Value):RFr ops a0 (fun _=> false) vals a0:=⟨rfl,rfl,fun i o d h=> (by cases h),fun s _=> rfl⟩
theorem RFr.putK {l0:List Oper} {a0:Act} (H:RgnOK l0.toArray a0.tmps.size) (vals:Nat→Value):∀(l pre:List Oper) (a:Act),pre ++ l=l0→RFr l0.toArray a0 (fun i=> decide (i < pre.length)) vals a→RFr l0.toArray a0 (fun i=> decide (i < l0.length)) vals (putK l vals pre.length a)
 | [],pre,a,he,h=> by
  rw [List.append_nil] at he;subst he;exact h
 | o :: l,pre,a,he,h=> by
  have ho:l0.toArray[pre.length]?=some o:=by rw [←he];simp
  have h1:=h.step H ho (vals pre.length);have e1:upd (fun i=> decide (i < pre.length)) pre.length true=fun i=> decide (i < (pre ++ [o]).length):=by
   funext i;by_cases e:i=pre.length
   ·subst e;rw [upd_same];simp
   ·rw [upd_ne _ _ e];simp;omega
  have e2:upd vals pre.length (vals pre.length)=vals:=by
   funext i;by_cases e:i=pre.length
   ·subst e;rw [upd_same]
   ·rw [upd_ne _ _ e]
  rw [e1,e2] at h1;have h2:=RFr.putK H vals l (pre ++ [o]) (a.put o.dst (vals pre.length)) (by rw [←he];simp) h1;rw [List.length_append] at h2;exact h2
theorem cnt_one (p:Nat→Bool) (m:Nat): [m].countP p=if p m=true then 1 else 0:=by
 rw [List.countP_cons,List.countP_nil,Nat.zero_add]
theorem cnt_upd (L:Nat→Bool) (i:Nat) (hi:L i=false):∀m,(List.range m).countP (fun j=> !(upd L i true) j) + (if i < m then 1 else 0)=(List.range m).countP (fun j=> !L j)
 | 0=> by simp
 | m + 1=> by
  have ih:=cnt_upd L i hi m;rw [List.range_succ,List.countP_append,List.countP_append,cnt_one,cnt_one];by_cases e:m=i
  ·subst e;rw [if_neg (by omega)] at ih;rw [upd_same,hi,if_neg (by decide),if_pos (by omega),if_pos (by decide)];omega
  ·rw [upd_ne _ _ e];by_cases e2:i < m
   ·rw [if_pos e2] at ih;rw [if_pos (show i < m + 1 by omega)];omega
   ·rw [if_neg e2] at ih;rw [if_neg (show ¬i < m + 1 by omega)];omega
def StepAll (F:Nat→Oper→Prop):List Oper→Nat→Prop
 | [],_=> True
 | o :: l,k=> F k o∧StepAll F l (k + 1)
theorem StepAll.get {F:Nat→Oper→Prop}:∀ {l:List Oper} {k i:Nat} {o:Oper},StepAll F l k→l[i]?=some o→F (k + i) o
 | [],_,_,_,_,hi=> by cases hi
 | o :: l,k,0,o',h,hi=> by
  have:o=o':=Option.some.inj hi;subst this;exact h.1
 | o :: l,k,i + 1,o',h,hi=> by
  have h1:F (k + 1 + i) o':=StepAll.get (l:=l) h.2 hi;rw [show k + (i + 1)=k + 1 + i from by omega];exact h1
section
variable {P:Program} {Q:Exit→Act→World→Prop} {J:(Nat→Bool)→(Nat→Value)→World→Prop} {a0:Act}
def OpSt (P:Program) (Q:Exit→Act→World→Prop) (J:(Nat→Bool)→(Nat→Value)→World→Prop) (ops:Array Oper) (a0:Act) (i:Nat) (o:Oper):Prop:=
 ∀L vals a w,RFr ops a0 L vals a→J L vals w→L i=false→(∀e∈o.after,Region.binds .any e=true→L e.on=true)→(∀(k:Nat) (o':Oper),L k=true→ops[k]?=some o'→∀e∈o'.after,Region.binds .any e=true→L e.on=true)→
  ∀K:Act→World→Prop,(∀v w',J (upd L i true) (upd vals i v) w'→K (a.put o.dst v) w')→o.wp P a w K Q
theorem rgn_any {l:List Oper} (H:RgnOK l.toArray a0.tmps.size) (hs:StepAll (OpSt P Q J l.toArray a0) l 0)
  (he:∀L vals w,(∀i,i < l.length→L i=true)→J L vals w→Q .normal (putK l vals 0 a0) w):
  ∀fuel (listed:Array Bool) a w vals,listed.size=l.length→(List.range l.length).countP (fun i=> !listed.getD i false)≤fuel→(∀(k:Nat) (o':Oper),listed.getD k false=true→l.toArray[k]?=some o'→∀e∈o'.after,Region.binds .any e=true→listed.getD e.on false=true)→RFr l.toArray a0 (fun i=> listed.getD i false) vals a→J (fun i=> listed.getD i false) vals w→wpAny P .any l.toArray Q fuel listed a w:=by
 have hend:∀(listed:Array Bool) a w vals,listed.size=l.length→(∀i,i < l.length→listed.getD i false=true)→RFr l.toArray a0 (fun i=> listed.getD i false) vals a→J (fun i=> listed.getD i false) vals w→Q .normal a w:=fun listed a w vals hsz hall hf hj=> by
  have h1:=he _ vals w hall hj;have h2:=RFr.putK H vals l [] a0 rfl ((RFr.init l.toArray a0 vals).congr fun i hi=> by simp);have h3:=hf.uniq (h2.congr fun i hi=> by
   have hi':i < l.length:=by simpa using hi
   simp only [hi',decide_true];exact (hall i hi').symm)
  rw [h3];exact h1
 have hall:∀(listed:Array Bool),listed.size=l.length→Region.ready .any l.toArray listed= []→∀i,i < l.length→listed.getD i false=true:=fun listed hsz hr i=> by
  induction i using Nat.strongRecOn with
  | ind i ih=>
   intro hi
   cases hb:listed.getD i false with
   | true=> rfl
   | false=>
    exfalso;have ho:l.toArray[i]?=some l[i]:=by simp [hi]
    have hm:i∈Region.ready .any l.toArray listed:=mem_ready.2 ⟨by
     have hlt:i < listed.size:=by omega
     simp [Array.getD,hlt] at hb ⊢;exact hb,l[i],ho,fun e hem _=> by
     have hw:=H.wait i _ ho e hem;exact ih e.on hw (by omega)⟩
    rw [hr] at hm;cases hm
 intro fuel
 induction fuel with
 | zero=>
  intro listed a w vals hsz hc hcl hf hj;have ha:∀i,i < l.length→listed.getD i false=true:=fun i hi=> by
   have h0:(List.range l.length).countP (fun i=> !listed.getD i false)=0:=by omega
   have:=List.countP_eq_zero.1 h0 i (List.mem_range.2 hi);simpa using this
  refine ⟨?_,hend listed a w vals hsz ha hf hj⟩
  cases hr:Region.ready .any l.toArray listed with
  | nil=> rfl
  | cons x t=>
   exfalso;have hm:x∈Region.ready .any l.toArray listed:=by rw [hr];exact List.mem_cons_self ..
   obtain ⟨h1,o,h2,_⟩:=mem_ready.1 hm;have hx:x < l.length:=by simpa using (Array.getElem?_eq_some_iff.1 h2).1
   have h3:=ha x hx;have hlt:x < listed.size:=by omega
   simp [Array.getD,hlt] at h1 h3;rw [h1] at h3;cases h3
 | succ fuel ih=>
  intro listed a w vals hsz hc hcl hf hj;refine ⟨fun hr=> hend listed a w vals hsz (hall listed hsz hr) hf hj,fun i hi=> ?_⟩;obtain ⟨h1,o,h2,h3⟩:=mem_ready.1 hi;have hil:i < l.length:=by simpa using (Array.getElem?_eq_some_iff.1 h2).1
  have hlt:i < listed.size:=by omega
  have hfl:listed.getD i false=false:=by
   simp [Array.getD,hlt] at h1 ⊢;exact h1
  have h2':l[i]?=some o:=by simpa using h2
  have hst:OpSt P Q J l.toArray a0 (0 + i) o:=hs.get h2';rw [Nat.zero_add] at hst;have hLe:(fun j=> (listed.setIfInBounds i true).getD j false)=upd (fun j=> listed.getD j false) i true:=by
   funext j;by_cases e:j=i
   ·subst e;rw [upd_same];simp [Array.getD,hlt]
   ·rw [upd_ne _ _ e];rw [Array.getD_eq_getD_getElem?,Array.getD_eq_getD_getElem?,Array.getElem?_setIfInBounds_ne (fun h=> e h.symm)]
  unfold wpOp;rw [h2];have hw:Region.wanted o (yielded l.toArray a.tmps)=true:=by simp [Region.wanted,H.free i o h2]
  simp only [hw,if_true];refine .inl (hst _ vals a w hf hj hfl (fun e he hb=> h3 e he hb) hcl _ fun v w' hj'=> ?_);have hcl':∀(k:Nat) (o':Oper),(listed.setIfInBounds i true).getD k false=true→l.toArray[k]?=some o'→∀e∈o'.after,Region.binds .any e=true→(listed.setIfInBounds i true).getD e.on false=true:=fun k o' hk ho' e he hb=> by
   have e1:=congrFun hLe k;have e2:=congrFun hLe e.on;rw [e1] at hk;rw [e2];by_cases h0:e.on=i
   ·rw [h0,upd_same]
   ·rw [upd_ne _ _ h0];by_cases h4:k=i
    ·subst h4;rw [h2] at ho';injection ho' with ho';subst ho';exact h3 e he hb
    ·rw [upd_ne _ _ h4] at hk;exact hcl k o' hk ho' e he hb
  refine ih _ _ _ (upd vals i v) (by rw [Array.size_setIfInBounds];exact hsz) ?_ hcl' (by rw [hLe];exact hf.step H h2 v) (by rw [hLe];exact hj');have hcc:=cnt_upd (fun j=> listed.getD j false) i hfl l.length;rw [if_pos hil] at hcc;have hce:(List.range l.length).countP (fun j=> !(listed.setIfInBounds i true).getD j false)=(List.range l.length).countP (fun j=> !(upd (fun j=> listed.getD j false) i true) j):=by
   congr 1
   funext j;rw [←congrFun hLe j]
  rw [hce];omega
theorem RFr.in_ {l:List Oper} {L:Nat→Bool} {vals:Nat→Value} {a:Act} (hf:RFr l.toArray a0 L vals a) (k t:Nat) {o:Oper} (hL:L k=true) (ho:l[k]?=some o) (hd:o.dst=some t):a.tmps[t]?=some (vals k):=
 hf.got k o t hL (by simpa using ho) hd
theorem RFr.out_ {l:List Oper} {L:Nat→Bool} {vals:Nat→Value} {a:Act} (hf:RFr l.toArray a0 L vals a) (t:Nat) (hn:(l.all fun o=> o.dst !=some t)=true):a.tmps[t]?=a0.tmps[t]?:=
 hf.old t fun i o _ ho hd=> by
  have ho':l[i]?=some o:=by simpa using ho
  have:=List.all_eq_true.1 hn o (List.mem_of_getElem? ho');rw [hd] at this;simp at this
theorem wp_region_inv {id:Nat} {l:List Oper} {w:World} (J:(Nat→Bool)→(Nat→Value)→World→Prop) (hm:P.follows .mixedOrders=true) (hB:rgnG a0.tmps.size l 0 []=true) (h0:J (fun _=> false) (fun _=> undef) w.drew)
  (hs:StepAll (OpSt P Q J l.toArray a0) l 0) (he:∀L vals w,(∀i,i < l.length→L i=true)→J L vals w→Q .normal (putK l vals 0 a0) w):(Code.region id l.toArray true).wp P Q a0 w:=by
 refine wp_region_any hm ?_;have hL:(fun i=> (Array.replicate l.toArray.size false).getD i false)=fun _=> false:=by
  funext i;rw [Array.getD_eq_getD_getElem?];by_cases h:i < l.toArray.size
  ·rw [Array.getElem?_replicate,if_pos h];rfl
  ·rw [Array.getElem?_replicate,if_neg h];rfl
 refine rgn_any (rgn_ok hB) hs he _ _ _ _ (fun _=> undef) (by simp) (Nat.le_trans List.countP_le_length (by simp)) (fun k o' hk=> by have:=congrFun hL k;rw [this] at hk;cases hk) ?_ ?_
 ·rw [hL];exact RFr.init _ _ _
 ·rw [hL];exact h0
theorem eval_tmp {a:Act} {t:Nat} {v:Value} (h:a.tmps[t]?=some v):a.eval (.tmp t)=v:=by
 show a.tmps.getD t undef=v
 rw [Array.getD_eq_getD_getElem?,h];rfl
theorem bool_no {b:Bool} (h:¬b=true):b=false:=by cases b <;> simp_all
theorem opwp_append {w:World} {o:Oper} {a:Act} {K:Act→World→Prop} (s x:Operand) (t:TypeId)
  (ho:o.op= .call { callee:= .builtin .append,args:= #[s,x],argTypes:= #[t,t] })
  (base:Nat) (e:TypeId) (z:Value) (size bytes:Nat) (ht:P.underlying t=some (.slice e)) (hi:(P.info? e).map (fun i=> (i.zero,i.size,i.bytes))=some (some z,size,bytes))
  (hzs:z.cells.size=size) (hsz:0 < size) (v:Value) (n:Nat) (xs:List Value) (hs:a.eval s=v) (hown:w.ownsRow base e size v n xs)
  (xv:Value) (m:Nat) (news:List Value) (hx:a.eval x=xv) (hsl:Sl w xv m size news) (h1:∀u∈news,u.oneCell'=true)
  (h63:n + m≤maxLen) (hbytes:(n + m) * bytes≤140737488355328) (hbase:base≤w.heap.size)
  (h:∀v' w',w'.ownsRow base e size v' (n + m) (xs ++ news)→w.grownBy w' v.ownBlock→(v'.ownBlock=v.ownBlock∨v'.ownBlock=some w.heap.size)→K (a.put o.dst v') w'):
  Oper.wp P o a w K Q:=by
 obtain ⟨v',w',hr,h2,h3,h4⟩:=run_append_sl (P:=P) w base t o.type e z size bytes ht hi hzs hsz v n xs hown xv m news hsl h1 h63 hbytes hbase;unfold Oper.wp execOp;simp only [ho,resolve,invoke,builtin,Sem.run_bind,Sem.run_pure,Result.andThen_ok,List.map_toArray,List.map_cons,List.map_nil,hs,hx,hr];exact h v' w' h2 h3 h4
theorem putK_congr:∀(l:List Oper) (k:Nat) (V V':Nat→Value) (a:Act),(∀i o,l[i]?=some o→o.dst≠none→V (k + i)=V' (k + i))→putK l V k a=putK l V' k a
 | [],_,_,_,_,_=> rfl
 | o :: l,k,V,V',a,h=> by
  show putK l V (k + 1) (a.put o.dst (V k))=putK l V' (k + 1) (a.put o.dst (V' k))
  have e:a.put o.dst (V k)=a.put o.dst (V' k):=by
   cases hd:o.dst with
   | none=> rfl
   | some d=> rw [show V k=V' k from h 0 o rfl (by rw [hd];simp)]
  rw [e];exact putK_congr l (k + 1) V V' _ fun i o' hi hd=> by
   rw [show k + 1 + i=k + (i + 1) from by omega];exact h (i + 1) o' hi hd
def OpQ (P:Program) (Q:Exit→Act→World→Prop) (l:List Oper) (a0:Act) (pv:Nat→Value) (wr:World) (F:World→World) (m i:Nat) (o:Oper):Prop:=
 ∀(L:Nat→Bool) (a:Act) (n:Nat),(∀k t o',L k=true→l[k]?=some o'→o'.dst=some t→a.tmps[t]?=some (pv k))→(∀t,(l.all fun o=> o.dst !=some t)=true→a.tmps[t]?=a0.tmps[t]?)→(∀e∈o.after,Region.binds .any e=true→L e.on=true)→
  ∀K:Act→World→Prop,(if i=m then K (a.put o.dst undef) (F (wr.drewN n)) else ∀n',K (a.put o.dst (pv i)) (wr.drewN n'))→o.wp P a (wr.drewN n) K Q
theorem wp_region_qs {id:Nat} {l:List Oper} {w:World} (pv:Nat→Value) (F:World→World) (m:Nat) (hm:P.follows .mixedOrders=true) (hB:rgnG a0.tmps.size l 0 []=true)
  (hl:(match l[m]? with | some om=> l.length==m + 1 && om.dst.isNone && (List.range m).all fun k=> om.after.any fun e=> e.on==k && Region.binds .any e | none=> false)=true)
  (hs:StepAll (OpQ P Q l a0 pv w F m) l 0) (he:∀n,Q .normal (putK l pv 0 a0) (F (w.drewN n))):(Code.region id l.toArray true).wp P Q a0 w:=by
 obtain ⟨om,hom⟩:∃om,l[m]?=some om:=by
  cases h:l[m]? with
  | none=> rw [h] at hl;cases hl
  | some om=> exact ⟨om,rfl⟩
 rw [hom] at hl;simp only [Bool.and_eq_true,beq_iff_eq] at hl;obtain ⟨⟨hlen,hnone⟩,hall⟩:=hl;have hdn:om.dst=none:=by cases hd:om.dst with | none=> rfl | some d=> rw [hd] at hnone;cases hnone
 have hlast:∀k,k < m→∃e∈om.after,(e:Edge).on=k∧Region.binds .any e=true:=fun k hk=> by
  have:=List.all_eq_true.1 hall k (List.mem_range.2 hk);rw [Array.any_eq_true'] at this;obtain ⟨e,he,h⟩:=this;rw [Bool.and_eq_true,beq_iff_eq] at h;exact ⟨e,he,h.1,h.2⟩
 refine wp_region_inv (fun L V w'=> (∀k,k≠m→L k=true→V k=pv k)∧(L m=false→∃n,w'=w.drewN n)∧(L m=true→∃n,w'=F (w.drewN n))) hm hB ⟨fun k _ h=> (by cases h),fun _=> ⟨1,rfl⟩,fun h=> (by cases h)⟩ ?_ ?_
 ·have key:∀(l':List Oper) (k0:Nat),(∀i o,l'[i]?=some o→l[k0 + i]?=some o)→StepAll (OpQ P Q l a0 pv w F m) l' k0→StepAll (OpSt P Q (fun L V w'=> (∀k,k≠m→L k=true→V k=pv k)∧(L m=false→∃n,w'=w.drewN n)∧(L m=true→∃n,w'=F (w.drewN n))) l.toArray a0) l' k0:=fun l'=> by
   induction l' with
   | nil=> intro _ _ _;trivial
   | cons o l' ih=>
    intro k0 hsub h;refine ⟨?_,ih (k0 + 1) (fun i o' hi=> by rw [show k0 + 1 + i=k0 + (i + 1) from by omega];exact hsub (i + 1) o' hi) h.2⟩;intro L V a w' hf hj hi hd hcl K hK;have hok:l[k0]?=some o:=by have:=hsub 0 o rfl;simpa using this
    have hk0:k0 < l.length:=(List.getElem?_eq_some_iff.1 hok).1;have hLm:L m=false:=by
     by_cases e:k0=m
     ·rw [←e];exact hi
     ·refine bool_no fun hb=> ?_;obtain ⟨e2,h1,h2,h3⟩:=hlast k0 (by omega);have:=hcl m om hb (by simpa using hom) e2 h1 h3;rw [h2,hi] at this;cases this
    obtain ⟨n,rfl⟩:=hj.2.1 hLm;refine h.1 L a n (fun k t o' hk ho' hd'=> ?_) (fun t ht=> hf.out_ t ht) hd K ?_
    ·have hkm:k≠m:=fun e=> by rw [e,hLm] at hk;cases hk
     rw [←hj.1 k hkm hk];exact hf.in_ k t hk ho' hd'
    ·by_cases e:k0=m
     ·rw [if_pos e];refine hK undef _ ⟨fun k hkm hk=> ?_,fun h=> ?_,fun _=> ⟨n,rfl⟩⟩
      ·rw [e] at hk ⊢;rw [upd_ne _ _ hkm] at hk ⊢;exact hj.1 k hkm hk
      ·rw [e,upd_same] at h;cases h
     ·rw [if_neg e];intro n';refine hK (pv k0) _ ⟨fun k hkm hk=> ?_,fun _=> ⟨n',rfl⟩,fun h=> ?_⟩
      ·by_cases e2:k=k0
       ·rw [e2,upd_same]
       ·rw [upd_ne _ _ e2] at hk ⊢;exact hj.1 k hkm hk
      ·rw [upd_ne _ _ (fun e3=> e e3.symm),hLm] at h;cases h
  exact key l 0 (fun i o h=> by rw [Nat.zero_add];exact h) hs
 ·intro L V w' hall' hj;obtain ⟨n,rfl⟩:=hj.2.2 (hall' m (by omega));have hp:putK l V 0 a0=putK l pv 0 a0:=putK_congr l 0 V pv a0 fun i o hi hd=> by
   rw [Nat.zero_add];have hil:i < l.length:=(List.getElem?_eq_some_iff.1 hi).1;refine hj.1 i (fun e=> hd ?_) (hall' i hil);rw [e,hom] at hi;injection hi with hi;rw [←hi];exact hdn
  rw [hp];exact he n
end
end Go.Proofs.YtgdmlmhpineibaaGreat
