/- A region that draws its order, by one invariant: each operation is shown once, whatever has come up before it. -/
import Derived.Test.YtehieobniamagaaGreatZc02
namespace Go.Proofs.YtehieobniamagaaGreat
open Go.RowKit
set_option linter.all false
set_option maxRecDepth 100000
set_option maxHeartbeats 1000000
def Ob(n:Nat):List Oper->Nat->List Nat->Bool
 | [],_,_=>true
 | o :: l,k,seen=>o.guard.isNone&&(o.after.all fun e=>decide (e.on<k))&&(match o.dst with
  | none=>Ob n l (k+1) seen
  | some d=>decide (d<n) && !seen.contains d&&Ob n l (k+1) (d :: seen))
structure Uk(ops:Array Oper)(n:Nat):Prop where
 free:∀(i:Nat) (o:Oper),ops[i]?=some o->o.guard=none
 wait:∀(i:Nat) (o:Oper),ops[i]?=some o->∀e∈o.after,(e:Edge).on<i
 lt:∀(i:Nat) (o:Oper) (d:Nat),ops[i]?=some o->o.dst=some d->d<n
 inj:∀(i j:Nat) (oi oj:Oper) (d:Nat),ops[i]?=some oi->ops[j]?=some oj->oi.dst=some d->oj.dst=some d->i=j
theorem zay{P:Prop}(h:P:=by
 rw[hd]at h3;simp only[Bool.and_eq_true]at h3;refine⟨by simpa using h3.1.1,by simpa using h3.1.2,fun j oj hj=>by omega⟩):P:=h
theorem zbc{P:Prop}(h:P:=by
 obtain⟨c1,c2,c3⟩:=c d hd;refine⟨c1,fun h=>c2 (List.mem_cons_of_mem _ h),fun j oj hj ho=>?_⟩
 cases j with
 | zero=>
  simp at ho;subst ho;rw[hdo];intro e;injection e with e;exact c2 (by rw[e];exact List.mem_cons_self ..)
 | succ j=>simp at ho;exact c3 j oj (by omega) ho):P:=h
theorem zbt{P:Prop}(h:P:=by
 obtain⟨c1,c2,c3⟩:=c d hd;refine⟨c1,c2,fun j oj hj ho=>?_⟩
 cases j with
 | zero=>simp at ho;subst ho;rw[hdo];simp
 | succ j=>simp at ho;exact c3 j oj (by omega) ho):P:=h
theorem Jg(n:Nat):∀(l:List Oper) (k:Nat) (aA:List Nat),Ob n l k aA=true->∀(i:Nat) (o:Oper),l[i]?=some o->
  o.guard=none/\(∀e∈o.after,e.on<k+i)/\∀d,o.dst=some d->d<n/\d ∉ aA/\∀j oj,j<i->l[j]?=some oj->oj.dst≠some d
 | [],_,_,_,i,o,h=>by simp at h
 | o :: l,k,aA,h,i,o',hi=>by
  unfold Ob at h;rw[Bool.and_eq_true,Bool.and_eq_true]at h;obtain⟨⟨h1,h2⟩,h3⟩:=h
  cases i with
  | zero=>
   simp at hi;subst hi;refine⟨by simpa using h1,fun e he=>?_,fun d hd=>?_⟩
   .rw[Array.all_eq_true_iff_forall_mem]at h2;have:=h2 e he;simpa using this
   .exact zay
  | succ i=>
   simp at hi
   cases hdo:o.dst with
   | none=>
    rw[hdo]at h3;obtain⟨a,b,c⟩:=Jg n l (k+1) aA h3 i o' hi;refine⟨a,fun e he=>by have:=b e he;omega,fun d hd=>?_⟩;exact zbt
   | some d0=>
    rw[hdo]at h3;simp only[Bool.and_eq_true]at h3;obtain⟨a,b,c⟩:=Jg n l (k+1) (d0 :: aA) h3.2 i o' hi;refine⟨a,fun e he=>by have:=b e he;omega,fun d hd=>?_⟩;exact zbc
theorem rgn_ok{l:List Oper}{n:Nat}(h:Ob n l 0 []=true):Uk l.toArray n:=by
 have aA:=Jg n l 0 [] h;have hg:∀(i:Nat) o,l.toArray[i]?=some o->l[i]?=some o:=fun i o h=>ay;refine⟨fun i o ho=>(aA i o (hg i o ho)).1,fun i o ho e he=>by have:=(aA i o (hg i o ho)).2.1 e he;omega,fun i o d ho hd=>((aA i o (hg i o ho)).2.2 d hd).1,fun i j oi oj d hi hj h1 h2=>?_⟩;rcases Nat.lt_trichotomy i j with e|e|e
 .exact absurd h1 (((aA j oj (hg j oj hj)).2.2 d h2).2.2 i oi e (hg i oi hi))
 .exact e
 .exact absurd h2 (((aA i oi (hg i oi hi)).2.2 d h1).2.2 j oj e (hg j oj hj))
structure Ge(ops:Array Oper)(a0:Act)(L:Nat->Bool)(vals:Nat->Value)(a:Act):Prop where
 sz:a.tmps.size=a0.tmps.size
 df:a.defers=a0.defers
 got:∀(i:Nat) (o:Oper) (d:Nat),L i=true->ops[i]?=some o->o.dst=some d->a.tmps[d]?=some (vals i)
 old:∀(s:Nat),(∀(i:Nat) (o:Oper),L i=true->ops[i]?=some o->o.dst≠some s)->a.tmps[s]?=a0.tmps[s]?
section
variable {ops:Array Oper} {a0 a a':Act} {L L':Nat->Bool} {vals:Nat->Value}
theorem Ge.congr(h:Ge ops a0 L vals a)(hL:∀i,i<ops.size->L i=L' i):Ge ops a0 L' vals a:=by
 have hs:∀i o,ops[i]?=some o->i<ops.size:=fun i o h=>(Array.getElem?_eq_some_iff.1 h).1;exact⟨h.sz,h.df,fun i o d hi ho hd=>h.got i o d (by rw[hL i (hs i o ho)];exact hi) ho hd,fun s hn=>h.old s fun i o hi ho=>hn i o (by rw[<-hL i (hs i o ho)];exact hi) ho⟩
theorem Ge.uniq(h:Ge ops a0 L vals a)(k:Ge ops a0 L vals a'):a=a':=by
 have h1:a.tmps=a'.tmps:=by
  apply Array.ext_getElem?;intro s;by_cases hs:∃i o,L i=true/\ops[i]?=some o/\o.dst=some s
  .obtain⟨i,o,h1,h2,h3⟩:=hs;rw[h.got i o s h1 h2 h3,k.got i o s h1 h2 h3]
  .rw[h.old s fun i o h1 h2 h3=>hs ⟨i,o,h1,h2,h3⟩,k.old s fun i o h1 h2 h3=>hs ⟨i,o,h1,h2,h3⟩]
 have h2:a.defers=a'.defers:=h.df.trans k.df.symm;cases a;cases a'
 simp only at h1 h2;subst h1 h2;rfl
theorem zai{P:Prop}(h:P:=by
 show(a.tmps.setIfInBounds d0 v)[d]?=_
 by_cases e:j=i
 .subst e;rw[ho]at aA;injection aA with aA;subst aA;rw[hd]at aB;injection aB with aB;subst aB;rw[Array.getElem?_setIfInBounds_self_of_lt aD,Ab]
 .have aC:d0≠d:=fun e2=>e (H.inj j i oj o d aA ho aB (by rw[hd,e2]));rw[Array.getElem?_setIfInBounds_ne aC,Ae _ _ e];rw[Ae _ _ e]at hj;exact h.got j oj d hj aA aB):P:=h
theorem zaj{P:Prop}(h:P:=by
 show(a.tmps.setIfInBounds d0 v)[s]?=_
 have aC:d0≠s:=fun e2=>hn i o (Ab _ _ _) ho (by rw[hd,e2]);rw[Array.getElem?_setIfInBounds_ne aC];exact h.old s fun j oj hj aA=>by
  by_cases e:j=i
  .subst e;rw[ho]at aA;injection aA with aA;subst aA;rw[hd];intro e2;injection e2 with e2;exact aC e2
  .exact hn j oj (by rw[Ae _ _ e];exact hj) aA):P:=h
theorem zav{P:Prop}(h:P:=by
 by_cases e:j=i
 .subst e;rw[ho]at aA;injection aA with aA;subst aA;rw[hd]at aB;cases aB
 .rw[Ae _ _ e]at hj ⊢;exact h.got j oj d hj aA aB):P:=h
theorem zaz{P:Prop}(h:P:=by
 by_cases e:j=i
 .subst e;rw[ho]at aA;injection aA with aA;subst aA;rw[hd];simp
 .exact hn j oj (by rw[Ae _ _ e];exact hj) aA):P:=h
theorem za9{P:Prop}(h:P:=by
 cases hd:o.dst with
 | none=>
  refine⟨h.sz,h.df,fun j oj d hj aA aB=>?_,fun s hn=>h.old s fun j oj hj aA=>?_⟩
  .exact zav
  .exact zaz
 | some d0=>
  have aD:d0<a.tmps.size:=by rw[h.sz];exact H.lt i o d0 ho hd
  refine⟨by show(a.tmps.setIfInBounds d0 v).size=_;rw[Array.size_setIfInBounds];exact h.sz,h.df,fun j oj d hj aA aB=>?_,fun s hn=>?_⟩
  .exact zai
  .exact zaj):P:=h
theorem Ge.step(H:Uk ops a0.tmps.size)(h:Ge ops a0 L vals a){i:Nat}{o:Oper}(ho:ops[i]?=some o)(v:Value):Ge ops a0 (Ay L i true) (Ay vals i v) (a.put o.dst v):=by
 exact za9
def Cm(ops:List Oper)(vals:Nat->Value):Nat->Act->Act:=match ops with
 | []=>fun _ a=>a
 | o :: l=>fun k a=>Cm l vals (k+1) (a.put o.dst (vals k))
end
theorem bj{P:Prop}(h:P:=by cases h):P:=h
theorem Ge.init(ops:Array Oper)(a0:Act)(vals:Nat->Value):Ge ops a0 (fun _=>false) vals a0:=⟨rfl,rfl,fun i o d h=>bj,fun s _=>rfl⟩
theorem zcn{P:Prop}(h:P:=by
 funext i;by_cases e:i=aA.length
 .subst e;rw[Ab];simp
 .rw[Ae _ _ e];simp;omega):P:=h
theorem Ge.putK{l0:List Oper}{a0:Act}(H:Uk l0.toArray a0.tmps.size)(vals:Nat->Value):∀(l aA:List Oper) (a:Act),aA++l=l0->Ge l0.toArray a0 (fun i=>decide (i<aA.length)) vals a->Ge l0.toArray a0 (fun i=>decide (i<l0.length)) vals (Cm l vals aA.length a)
 | [],aA,a,he,h=>by
  rw[List.append_nil]at he;subst he;exact h
 | o :: l,aA,a,he,h=>by
  have ho:l0.toArray[aA.length]?=some o:=by rw[<-he];simp
  have h1:=h.step H ho (vals aA.length);have e1:Ay (fun i=>decide (i<aA.length)) aA.length true=fun i=>decide (i<(aA ++ [o]).length):=by
   exact zcn
  have e2:Ay vals aA.length (vals aA.length)=vals:=by
   funext i;by_cases e:i=aA.length
   .subst e;rw[Ab]
   .rw[Ae _ _ e]
  rw[e1,e2]at h1;have h2:=Ge.putK H vals l (aA ++ [o]) (a.put o.dst (vals aA.length)) (by rw[<-he];simp) h1;rw[List.length_append]at h2;exact h2
theorem T8(p:Nat->Bool)(m:Nat): [m].countP p=if p m=true then 1 else 0:=by
 rw[List.countP_cons,List.countP_nil,Nat.zero_add]
theorem O5(L:Nat->Bool)(i:Nat)(hi:L i=false):∀m,(List.range m).countP (fun j=> !(Ay L i true) j)+(if i<m then 1 else 0)=(List.range m).countP (fun j=> !L j)
 | 0=>by simp
 | m+1=>by
  have ih:=O5 L i hi m;rw[List.range_succ,List.countP_append,List.countP_append,T8,T8];by_cases e:m=i
  .subst e;rw[if_neg ac]at ih;rw[Ab,hi,if_neg ae,if_pos ac,if_pos ae];omega
  .rw[Ae _ _ e];by_cases e2:i<m
   .rw[if_pos e2]at ih;rw[if_pos (show i<m+1 by omega)];omega
   .rw[if_neg e2]at ih;rw[if_neg (show ¬i<m+1 by omega)];omega
def AG(F:Nat->Oper->Prop):List Oper->Nat->Prop
 | [],_=>True
 | o :: l,k=>F k o/\AG F l (k+1)
theorem AG.get{F:Nat->Oper->Prop}:∀ {l:List Oper} {k i:Nat} {o:Oper},AG F l k->l[i]?=some o->F (k+i) o
 | [],_,_,_,_,hi=>by cases hi
 | o :: l,k,0,o',h,hi=>by
  have:o=o':=Option.some.inj hi;subst this;exact h.1
 | o :: l,k,i+1,o',h,hi=>by
  have h1:F (k+1+i) o':=AG.get (l:=l) h.2 hi;rw[show k+(i+1)=k+1+i from ac];exact h1
section
variable {P:Program} {Q:Exit->Act->World->Prop} {J:(Nat->Bool)->(Nat->Value)->World->Prop} {a0:Act}
def Vu(P:Program)(Q:Exit->Act->World->Prop)(J:(Nat->Bool)->(Nat->Value)->World->Prop)(ops:Array Oper)(a0:Act)(i:Nat)(o:Oper):Prop:=
 ∀L vals a w,Ge ops a0 L vals a->J L vals w->L i=false->(∀e∈o.after,Region.binds .any e=true->L e.on=true)->(∀(k:Nat) (o':Oper),L k=true->ops[k]?=some o'->∀e∈o'.after,Region.binds .any e=true->L e.on=true)->
  ∀K:Act->World->Prop,(∀v w',J (Ay L i true) (Ay vals i v) w'->K (a.put o.dst v) w')->o.wp P a w K Q
theorem zaA{P:Prop}(h:P:=by
 rw[Ae _ _ e];rw[Array.getD_eq_getD_getElem?,Array.getD_eq_getD_getElem?,Array.getElem?_setIfInBounds_ne (fun h=>e h.symm)]):P:=h
theorem zbx{P:Prop}(h:P:=by
 have h0:(List.range l.length).countP (fun i=> !listed.getD i false)=0:=by omega
 have:=List.countP_eq_zero.1 h0 i (List.mem_range.2 hi);simpa using this):P:=h
theorem bn{P:Prop}(h:P:=by simpa using (Array.getElem?_eq_some_iff.1 h2).1):P:=h
theorem dw{P:Prop}(h:P:=by simpa using h2):P:=h
theorem Zi{l:List Oper}(H:Uk l.toArray a0.tmps.size)(hs:AG (Vu P Q J l.toArray a0) l 0)
  (he:∀L vals w,(∀i,i<l.length->L i=true)->J L vals w->Q .normal (Cm l vals 0 a0) w):
  ∀fuel (listed:Array Bool) a w vals,listed.size=l.length->(List.range l.length).countP (fun i=> !listed.getD i false)<=fuel->(∀(k:Nat) (o':Oper),listed.getD k false=true->l.toArray[k]?=some o'->∀e∈o'.after,Region.binds .any e=true->listed.getD e.on false=true)->Ge l.toArray a0 (fun i=>listed.getD i false) vals a->J (fun i=>listed.getD i false) vals w->wpAny P .any l.toArray Q fuel listed a w:=by
 have aE:∀(listed:Array Bool) a w vals,listed.size=l.length->(∀i,i<l.length->listed.getD i false=true)->Ge l.toArray a0 (fun i=>listed.getD i false) vals a->J (fun i=>listed.getD i false) vals w->Q .normal a w:=fun listed a w vals aB aA hf hj=>by
  have h1:=he _ vals w aA hj;have h2:=Ge.putK H vals l [] a0 rfl ((Ge.init l.toArray a0 vals).congr fun i hi=>ag);have h3:=hf.uniq (h2.congr fun i hi=>by
   have aI:i<l.length:=by simpa using hi
   simp only[aI,decide_true];exact(aA i aI).symm)
  rw[h3];exact h1
 have aA:∀(listed:Array Bool),listed.size=l.length->Region.ready .any l.toArray listed= []->∀i,i<l.length->listed.getD i false=true:=fun listed aB hr i=>by
  induction i using Nat.strongRecOn with
  | ind i ih=>
   intro hi
   cases hb:listed.getD i false with
   | true=>rfl
   | false=>
    exfalso;have ho:l.toArray[i]?=some l[i]:=by simp[hi]
    have hm:i∈Region.ready .any l.toArray listed:=mem_ready.2 ⟨by
     have aC:i<listed.size:=ac;simp[Array.getD,aC]at hb ⊢;exact hb,l[i],ho,fun e aM _=>by
     have hw:=H.wait i _ ho e aM;exact ih e.on hw ac⟩
    rw[hr]at hm;cases hm
 intro fuel
 induction fuel with
 | zero=>
  intro listed a w vals aB hc aH hf hj;have ha:∀i,i<l.length->listed.getD i false=true:=fun i hi=>by
   exact zbx
  refine⟨?_,aE listed a w vals aB ha hf hj⟩
  cases hr:Region.ready .any l.toArray listed with
  | nil=>rfl
  | cons x t=>
   exfalso;have hm:x∈Region.ready .any l.toArray listed:=by rw[hr];exact List.mem_cons_self ..
   obtain⟨h1,o,h2,_⟩:=mem_ready.1 hm;have hx:x<l.length:=bn;have h3:=ha x hx;have aC:x<listed.size:=ac;simp[Array.getD,aC]at h1 h3;rw[h1]at h3;cases h3
 | succ fuel ih=>
  intro listed a w vals aB hc aH hf hj;refine⟨fun hr=>aE listed a w vals aB (aA listed aB hr) hf hj,fun i hi=>?_⟩;obtain⟨h1,o,h2,h3⟩:=mem_ready.1 hi;have aL:i<l.length:=bn;have aC:i<listed.size:=ac;have aJ:listed.getD i false=false:=by
   simp[Array.getD,aC]at h1 ⊢;exact h1
  have aP:l[i]?=some o:=dw;have BC:Vu P Q J l.toArray a0 (0+i) o:=hs.get aP;rw[Nat.zero_add]at BC;have aF:(fun j=>(listed.setIfInBounds i true).getD j false)=Ay (fun j=>listed.getD j false) i true:=by
   funext j;by_cases e:j=i
   .subst e;rw[Ab];simp[Array.getD,aC]
   .exact zaA
  unfold wpOp;rw[h2];have hw:Region.wanted o (yielded l.toArray a.tmps)=true:=by simp[Region.wanted,H.free i o h2]
  simp only[hw,if_true];refine .inl (BC _ vals a w hf hj aJ (fun e he hb=>h3 e he hb) aH _ fun v w' aK=>?_);have aG:∀(k:Nat) (o':Oper),(listed.setIfInBounds i true).getD k false=true->l.toArray[k]?=some o'->∀e∈o'.after,Region.binds .any e=true->(listed.setIfInBounds i true).getD e.on false=true:=fun k o' hk aD e he hb=>by
   have e1:=congrFun aF k;have e2:=congrFun aF e.on;rw[e1]at hk;rw[e2];by_cases h0:e.on=i
   .rw[h0,Ab]
   .rw[Ae _ _ h0];by_cases h4:k=i
    .subst h4;rw[h2]at aD;injection aD with aD;subst aD;exact h3 e he hb
    .rw[Ae _ _ h4]at hk;exact aH k o' hk aD e he hb
  refine ih _ _ _ (Ay vals i v) (by rw[Array.size_setIfInBounds];exact aB) ?_ aG (by rw[aF];exact hf.step H h2 v) (by rw[aF];exact aK);have aO:=O5 (fun j=>listed.getD j false) i aJ l.length;rw[if_pos aL]at aO;have aN:(List.range l.length).countP (fun j=> !(listed.setIfInBounds i true).getD j false)=(List.range l.length).countP (fun j=> !(Ay (fun j=>listed.getD j false) i true) j):=by
   congr 1
   funext j;rw[<-congrFun aF j]
  rw[aN];omega
theorem Ge.in_{l:List Oper}{L:Nat->Bool}{vals:Nat->Value}{a:Act}(hf:Ge l.toArray a0 L vals a)(k t:Nat){o:Oper}(hL:L k=true)(ho:l[k]?=some o)(hd:o.dst=some t):a.tmps[t]?=some (vals k):=
 hf.got k o t hL (by simpa using ho) hd
theorem Ge.out_{l:List Oper}{L:Nat->Bool}{vals:Nat->Value}{a:Act}(hf:Ge l.toArray a0 L vals a)(t:Nat)(hn:(l.all fun o=>o.dst !=some t)=true):a.tmps[t]?=a0.tmps[t]?:=
 hf.old t fun i o _ ho hd=>by
  have aA:l[i]?=some o:=by simpa using ho
  have:=List.all_eq_true.1 hn o (List.mem_of_getElem? aA);rw[hd]at this;simp at this
theorem zbu{P:Prop}(h:P:=by
 funext i;rw[Array.getD_eq_getD_getElem?];by_cases h:i<l.toArray.size
 .rw[Array.getElem?_replicate,if_pos h];rfl
 .rw[Array.getElem?_replicate,if_neg h];rfl):P:=h
theorem Db{id:Nat}{l:List Oper}{w:World}(J:(Nat->Bool)->(Nat->Value)->World->Prop)(hm:P.follows .mixedOrders=true)(hB:Ob a0.tmps.size l 0 []=true)(h0:J (fun _=>false) (fun _=>undef) w.drew)
  (hs:AG (Vu P Q J l.toArray a0) l 0) (he:∀L vals w,(∀i,i<l.length->L i=true)->J L vals w->Q .normal (Cm l vals 0 a0) w):(Code.region id l.toArray true).wp P Q a0 w:=by
 refine wp_region_any hm ?_;have hL:(fun i=>(Array.replicate l.toArray.size false).getD i false)=fun _=>false:=by
  exact zbu
 refine Zi (rgn_ok hB) hs he _ _ _ _ (fun _=>undef) ag (Nat.le_trans List.countP_le_length ag) (fun k o' hk=>by have:=congrFun hL k;rw[this]at hk;cases hk) ?_ ?_
 .rw[hL];exact Ge.init _ _ _
 .rw[hL];exact h0
theorem CC{a:Act}{t:Nat}{v:Value}(h:a.tmps[t]?=some v):a.eval (.tmp t)=v:=by
 show a.tmps.getD t undef=v
 rw[Array.getD_eq_getD_getElem?,h];rfl
theorem Bn{b:Bool}(h:¬b=true):b=false:=by cases b <;> simp_all
theorem Dr{w:World}{o:Oper}{a:Act}{K:Act->World->Prop}(s x:Operand)(t:TypeId)
  (ho:o.op= .call { callee:= .builtin .append,args:= #[s,x],argTypes:= #[t,t] })
  (base:Nat) (e:TypeId) (z:Value) (size aA:Nat) (ht:P.underlying t=some (.slice e)) (hi:(P.info? e).map (fun i=>(i.zero,i.size,i.bytes))=some (some z,size,aA))
  (aE:z.cells.size=size) (aF:0<size) (v:Value) (n:Nat) (xs:List Value) (hs:a.eval s=v) (aD:w.ownsRow base e size v n xs)
  (xv:Value) (m:Nat) (news:List Value) (hx:a.eval x=xv) (aG:Sl w xv m size news) (h1:∀u∈news,u.oneCell'=true)
  (aH:n+m<=maxLen) (aB:(n+m)*aA<=140737488355328) (aC:base<=w.heap.size)
  (h:∀v' w',w'.ownsRow base e size v' (n+m) (xs++news)->w.grownBy w' v.ownBlock->(v'.ownBlock=v.ownBlock∨v'.ownBlock=some w.heap.size)->K (a.put o.dst v') w'):
  Oper.wp P o a w K Q:=by
 obtain⟨v',w',hr,h2,h3,h4⟩:=Fk (P:=P) w base t o.type e z size aA ht hi aE aF v n xs aD xv m news aG h1 aH aB aC;exact zbr
theorem EO:∀(l:List Oper) (k:Nat) (V V':Nat->Value) (a:Act),(∀i o,l[i]?=some o->o.dst≠none->V (k+i)=V' (k+i))->Cm l V k a=Cm l V' k a
 | [],_,_,_,_,_=>rfl
 | o :: l,k,V,V',a,h=>by
  show Cm l V (k+1) (a.put o.dst (V k))=Cm l V' (k+1) (a.put o.dst (V' k))
  have e:a.put o.dst (V k)=a.put o.dst (V' k):=by
   cases hd:o.dst with
   | none=>rfl
   | some d=>rw[show V k=V' k from h 0 o rfl (by rw[hd];simp)]
  rw[e];exact EO l (k+1) V V' _ fun i o' hi hd=>by
   rw[show k+1+i=k+(i+1) from ac];exact h (i+1) o' hi hd
def OpQ(P:Program)(Q:Exit->Act->World->Prop)(l:List Oper)(a0:Act)(pv:Nat->Value)(wr:World)(F:World->World)(m i:Nat)(o:Oper):Prop:=
 ∀(L:Nat->Bool) (a:Act) (n:Nat),(∀k t o',L k=true->l[k]?=some o'->o'.dst=some t->a.tmps[t]?=some (pv k))->(∀t,(l.all fun o=>o.dst !=some t)=true->a.tmps[t]?=a0.tmps[t]?)->(∀e∈o.after,Region.binds .any e=true->L e.on=true)->
  ∀K:Act->World->Prop,(if i=m then K (a.put o.dst undef) (F (wr.drewN n)) else ∀n',K (a.put o.dst (pv i)) (wr.drewN n'))->o.wp P a (wr.drewN n) K Q
theorem zcs{P:Prop}(h:P:=by
 cases h:l[m]? with
 | none=>rw[h]at hl;cases hl
 | some om=>exact⟨om,rfl⟩):P:=h
theorem dz{P:Prop}(h:P:=by cases hd:om.dst with|none=>rfl|some d=>rw[hd]at aA;cases aA):P:=h
theorem NW{id:Nat}{l:List Oper}{w:World}(pv:Nat->Value)(F:World->World)(m:Nat)(hm:P.follows .mixedOrders=true)(hB:Ob a0.tmps.size l 0 []=true)
  (hl:(match l[m]? with|some om=>l.length==m+1&&om.dst.isNone&&(List.range m).all fun k=>om.after.any fun e=>e.on==k&&Region.binds .any e|none=>false)=true)
  (hs:AG (OpQ P Q l a0 pv w F m) l 0) (he:∀n,Q .normal (Cm l pv 0 a0) (F (w.drewN n))):(Code.region id l.toArray true).wp P Q a0 w:=by
 obtain⟨om,aF⟩:∃om,l[m]?=some om:=by
  exact zcs
 rw[aF]at hl;simp only[Bool.and_eq_true,beq_iff_eq]at hl;obtain⟨⟨hlen,aA⟩,aG⟩:=hl;have aM:om.dst=none:=dz;have aE:∀k,k<m->∃e∈om.after,(e:Edge).on=k/\Region.binds .any e=true:=fun k hk=>by
  have:=List.all_eq_true.1 aG k (List.mem_range.2 hk);rw[Array.any_eq_true']at this;obtain⟨e,he,h⟩:=this;rw[Bool.and_eq_true,beq_iff_eq]at h;exact⟨e,he,h.1,h.2⟩
 refine Db (fun L V w'=>(∀k,k≠m->L k=true->V k=pv k)/\(L m=false->∃n,w'=w.drewN n)/\(L m=true->∃n,w'=F (w.drewN n))) hm hB ⟨fun k _ h=>bj,fun _=>⟨1,rfl⟩,fun h=>bj⟩ ?_ ?_
 .have aI:∀(l':List Oper) (k0:Nat),(∀i o,l'[i]?=some o->l[k0+i]?=some o)->AG (OpQ P Q l a0 pv w F m) l' k0->AG (Vu P Q (fun L V w'=>(∀k,k≠m->L k=true->V k=pv k)/\(L m=false->∃n,w'=w.drewN n)/\(L m=true->∃n,w'=F (w.drewN n))) l.toArray a0) l' k0:=fun l'=>by
   induction l' with
   | nil=>intro _ _ _;trivial
   | cons o l' ih=>
    intro k0 aD h;refine⟨?_,ih (k0+1) (fun i o' hi=>by rw[show k0+1+i=k0+(i+1) from ac];exact aD (i+1) o' hi) h.2⟩;intro L V a w' hf hj hi hd aO K hK;have aJ:l[k0]?=some o:=by have:=aD 0 o rfl;simpa using this
    have hk0:k0<l.length:=(List.getElem?_eq_some_iff.1 aJ).1;have aH:L m=false:=by
     by_cases e:k0=m
     .rw[<-e];exact hi
     .refine Bn fun hb=>?_;obtain⟨e2,h1,h2,h3⟩:=aE k0 ac;have:=aO m om hb (by simpa using aF) e2 h1 h3;rw[h2,hi]at this;cases this
    obtain⟨n,rfl⟩:=hj.2.1 aH;refine h.1 L a n (fun k t o' hk aK aN=>?_) (fun t ht=>hf.out_ t ht) hd K ?_
    .have aC:k≠m:=fun e=>by rw[e,aH]at hk;cases hk
     rw[<-hj.1 k aC hk];exact hf.in_ k t hk aK aN
    .by_cases e:k0=m
     .rw[if_pos e];refine hK undef _ ⟨fun k aC hk=>?_,fun h=>?_,fun _=>⟨n,rfl⟩⟩
      .rw[e]at hk ⊢;rw[Ae _ _ aC]at hk ⊢;exact hj.1 k aC hk
      .rw[e,Ab]at h;cases h
     .rw[if_neg e];intro n';refine hK (pv k0) _ ⟨fun k aC hk=>?_,fun _=>⟨n',rfl⟩,fun h=>?_⟩
      .by_cases e2:k=k0
       .rw[e2,Ab]
       .rw[Ae _ _ e2]at hk ⊢;exact hj.1 k aC hk
      .rw[Ae _ _ (fun e3=>e e3.symm),aH]at h;cases h
  exact aI l 0 (fun i o h=>by rw[Nat.zero_add];exact h) hs
 .intro L V w' aB hj;obtain⟨n,rfl⟩:=hj.2.2 (aB m ac);have hp:Cm l V 0 a0=Cm l pv 0 a0:=EO l 0 V pv a0 fun i o hi hd=>by
   rw[Nat.zero_add];have aL:i<l.length:=(List.getElem?_eq_some_iff.1 hi).1;refine hj.1 i (fun e=>hd ?_) (aB i aL);rw[e,aF]at hi;injection hi with hi;rw[<-hi];exact aM
  rw[hp];exact he n
end
theorem gt_div{q p:Int}(hp:1<=p):256/p<q↔256<q*p:=by
 constructor
 .intro h;exact Int.lt_mul_of_ediv_lt ac h
 .intro h;exact Int.ediv_lt_of_lt_mul ac h
theorem DR(p m:Int)(mv:Value)(w:World):
  Calls Tryz.prog 14 #[.agg #[p,m,mv]] w fun r w'=>r= .returned (.int .i64 (CG p m))/\Ex w w':=by
 obtain⟨xb,aA⟩:=nA w.heap.size;have d0:(w.alloc (.cells #[p,m,mv] 24)).cell? (xb,0)=some (.int .i64 p):=by rw[<-aA];simp
 have d1:(w.alloc (.cells #[p,m,mv] 24)).cell? (xb,1)=some (.int .i64 m):=by rw[<-aA];simp
 have e0:Ex w (w.alloc (.cells #[p,m,mv] 24)):=(Ex.refl _).alloc _;have D0:=Aa d0;have D1:=Aa d1;clear d0 d1;by_cases h:2<=p/\1<=m/\m<=8
 .obtain⟨h1,h3,h4⟩:=h;have HO:=Aa (show CG p m=if p^m.toNat<=256 then p^m.toNat else 0 by unfold CG;by_cases h:p^m.toNat<=256 <;> simp[h,h1,h3,h4]);go_enter Tryz.func14,Tryz.ntmps14
  have d0:=D0.o;have d1:=D1.o
  go_wp2
  clear aA D0 D1;generalize w.alloc (.cells #[p,m,mv] 24)=w1 at *
  go_loop [3,4] (fun q' i'=>∃i:Nat,i<=m.toNat/\i'= .int .i64 i/\q'= .int .i64 (p^i)/\1<=p^i/\p^i<=256) (fun _ i'=>m.toNat-(intOf i').toNat)
  case atStart=>exact⟨0,ac,rfl,ag,ag,ag⟩
  case round=>
   obtain⟨i,hi,rfl,rfl,q1,q2⟩:=hrel;have HS:=Aa (Int.pow_succ p i);have HM:=Aa (show i<m.toNat->p^(i+1)<=p^m.toNat from fun h=>Jm h1 h);have HG:=Aa (gt_div (q:=p^i) (show 1<=p by omega));have q4:1<=p^i*p:=by
    exact zcR
   have e1:=Int.ediv_nonneg (show(0:Int)<=256 by omega) (show 0<=p by omega);have e2:256/p<=256:=Int.ediv_le_self _ ac;by_cases hlt:(i:Int)<m
   .by_cases hq:256<p^i*p
    .have HB:=HM.o ac;rw[HS.o]at HB;have HN:=Aa (show ¬p^m.toNat<=256 by omega);have hg:=HG.o.2 hq;clear HB HM HG;generalize p^i=y at *
     go_wp2
     go_ret;exact⟨Af (by rw[HO.o,if_neg (by have:=HN.o;omega)]),e0⟩
    .have HE:=Aa (show p^(i+1)=p^i*p from HS.o);have hg:¬256/p<p^i:=fun h=>hq (HG.o.1 h);have hg':p^i<=256/p:=by omega
     clear HM HS HG hg;exact zbs
   .have aB:i=m.toNat:=by omega
    have HN:=Aa (show p^m.toNat=p^i by rw[aB]);clear HM HS HG;generalize p^i=y at *
    go_wp2
    go_ret;exact⟨Af (by rw[HO.o,HN.o,if_pos q2]),e0⟩
 .have HO:=Aa (show CG p m=0 by
   unfold CG;rw[if_neg];rintro⟨h1,h2,h3,h4⟩;exact h ⟨h1,h2,h3⟩)
  have c:p<2∨(2<=p/\m<1)∨(2<=p/\1<=m/\8<m):=ac;clear h;rcases c with c|⟨c1,c2⟩|⟨c1,c2,c3⟩
  all_goals
   go_enter Tryz.func14,Tryz.ntmps14
   have d0:=D0.o;have d1:=D1.o
   go_wp2
   go_ret;exact⟨Af HO.o.symm,e0⟩
theorem Zt{n:Nat}(hn:2<=n):Jl n=true↔∀d,2<=d->d<n->n%d≠0:=by
 unfold Jl;rw[decide_eq_true_iff];exact⟨fun h d a b=>h.2 d b a,fun h=>⟨hn,fun d a b=>h d b a⟩⟩
theorem Rp(n:Nat)(w:World)(h1:2<=n)(h2:n<=256):
  Calls Tryz.prog 118 #[n] w fun r w'=>r= .returned (.bool (Jl n))/\w=w':=by
 have HI:=Aa (Zt h1);go_enter Tryz.func118,Tryz.ntmps118
 go_wp2
 go_loop [3] (fun d'=>∃d:Nat,2<=d/\d<=n/\d'= .int .i64 d/\Hia (∀c,2<=c->c<d->n%c≠0)) (fun d'=>n-(intOf d').toNat)
 case atStart=>exact⟨2,ac,ac,rfl,Aa (fun c a b=>ac)⟩
 case round=>
  obtain⟨d,d1,d2,rfl,aA⟩:=hrel;by_cases hlt:d<n
  .by_cases hd:n%d=0
   .have aB:((n:Int)%(d:Int)==0)=true:=by simp;omega
    have HR:=Aa (show Jl n=false by
     rw[<-Bool.not_eq_true];exact fun h=>HI.o.1 h d d1 hlt hd)
    clear hd;exact zdc
   .have aB:((n:Int)%(d:Int)==0)=false:=by simp;omega
    have HA:=Aa (show ∀c,2<=c->c<d+1->n%c≠0 from fun c a b=>by
     by_cases e:c=d
     .subst e;exact hd
     .exact aA.o c a ac)
    clear hd;exact zbS
  .have HR:=Aa (HI.o.2 fun c a b=>aA.o c a ac);exact zdc
theorem JT(x p m:Nat)(w:World)(hx:x<=65536)(hp:1<=p)(hp':p<=256)(hm:m<=256):
  Calls Tryz.prog 171 #[x,p,m] w fun r w'=>∃v,r= .returned v/\(∃g,v= .slice (some ⟨g,0,none⟩) m m/\w.heap.size<=g/\AF w' w.heap.size 3 g m (iv (AK p m x)))/\Ex w w':=by
 go_enter Tryz.func171,Tryz.ntmps171
 go_wp2_with (at_make;refine Ar _ rfl _ _ 22 rfl 3 (.int .i64 0) 8 Tryz.underlying22 Az rfl _ m rfl rfl rfl ac ai ?_)
 intro w1 aA aD;obtain⟨g,hg⟩:=nA w.heap.size;have aB:AF w1 g 3 g m (iv fun j=>if j<0 then AK p m x j else 0):=by
  rw[hg]at aA;exact aA.congr fun j _=>by simp[iv]
 have HG:=Aa hg;simp only[hg];clear aA hg;go_wp2_with fail
 go_loopw [0,8] (fun x' k' wr=>∃k:Nat,k<=m/\k'= .int .i64 k/\x'= .int .i64 ((x/p^k:Nat):Int)/\AF wr g 3 g m (iv fun j=>if j<k then AK p m x j else 0)/\Ex w wr) (fun _ k' _=>m-(intOf k').toNat)
 case atStart=>exact⟨0,ac,rfl,ag,aB,aD⟩
 case round=>
  clear aB aD;obtain⟨k,hk,rfl,rfl,aA,aD⟩:=hrel;have hxk:x/p^k<=65536:=Nat.le_trans (Nat.div_le_self _ _) hx;have HS:=Aa (show x/p^(k+1)=x/p^k/p by rw[Nat.pow_succ,Nat.div_div_eq_div_mul]);have HD:=Aa (show k<m->AK p m x k=((x/p^k%p:Nat):Int) from fun h=>by unfold AK;rw[if_pos h]);generalize x/p^k=y at *;by_cases hlt:k<m
  .exact zag
  .obtain rfl:k=m:=by omega
   have aC:AF wr g 3 g k (iv (AK p k x)):=aA.icongr fun j hj=>by rw[if_pos hj]
   have HO:=Aa aC;clear aA aC HD HS;go_wp2_with fail
   go_ret;exact⟨_,rfl,⟨g,rfl,by rw[HG.o];exact Nat.le_refl _,by rw[HG.o];exact HO.o⟩,aD⟩
theorem AD(w:World)(p m:Int)(mv:Value):(w.alloc (.cells #[p,m,mv] 24)).cell? (w.heap.size,0)=some (.int .i64 p)/\
  (w.alloc (.cells #[p,m,mv] 24)).cell? (w.heap.size,1)=some (.int .i64 m)/\
  (w.alloc (.cells #[p,m,mv] 24)).cell? (w.heap.size,2)=some mv/\Ex w (w.alloc (.cells #[p,m,mv] 24))/\
  (w.alloc (.cells #[p,m,mv] 24)).heap.size=w.heap.size+1:=
 ⟨ag,ag,ag,(Ex.refl _).alloc _,ag⟩
def isI(p m x:Int):Bool:=decide (0<=x/\x<CG p m)
theorem S9(p m x:Int)(mv:Value)(w:World):
  Calls Tryz.prog 200 #[.agg #[p,m,mv],x] w fun r w'=>r= .returned (.bool (isI p m x))/\Ex w w':=by
 obtain⟨d0,d1,d2,e0,_⟩:=AD w p m mv;have HO:=Aa (fun w=>DR p m mv w);have HI:=Aa (show isI p m x=decide (0<=x/\x<CG p m) from rfl);generalize CG p m=q at *;by_cases h0:0<=x
 .go_enter Tryz.func200,Tryz.ntmps200
  go_wp2_with fail
  generalize w.alloc (.cells #[p,m,mv] 24)=w1 at *;refine(HO.o _).mono ?_;rintro e w2⟨rfl,hx⟩;go_wp2_with fail
  go_ret;exact⟨Aq (by rw[HI.o];simp[h0]),e0.trans hx⟩
 .go_enter Tryz.func200,Tryz.ntmps200
  go_wp2_with fail
  go_ret;exact⟨Aq (by rw[HI.o];simp;omega),e0⟩
theorem Hh.ord{p m:Nat}{ml:List Int}(h:Hh p m ml):CG p m=((p^m:Nat):Int):=by
 obtain⟨a,b,c,d,e,f⟩:=h;exact zbB
section
variable {p m:Nat} {ml:List Int} {mv:Value}
theorem zbg{P:Prop}(h:P:=by
 clear h ho hf;go_enter Tryz.func207,Tryz.ntmps207
 go_wp2_with fail
 generalize w.alloc (.cells #[p,m,mv] 24)=w1 at *;refine(HI.o _).mono ?_;rintro e w2⟨rfl,hx⟩;go_wp2_with fail
 go_ret;exact⟨Af HK.o.symm,e0.trans hx⟩):P:=h
theorem Zn(w:World)(hf:Hh p m ml)(x:Int):
  Calls Tryz.prog 207 #[.agg #[p,m,mv],x] w fun r w'=>r= .returned (.int .i64 (Av (p^m) x:Nat))/\Ex w w':=by
 obtain⟨d0,d1,d2,e0,_⟩:=AD w p m mv;have HI:=Aa (fun w=>S9 p m x mv w);have ho:=hf.ord;by_cases h:0<=x/\x<((p^m:Nat):Int)
 .have HK:=Aa (show((Av (p^m) x:Nat):Int)=x by unfold Av;rw[if_pos h];omega);rw[show isI p m x=true from decide_eq_true (by rw[ho];exact h)]at HI;exact zbg
 .have HK:=Aa (show((Av (p^m) x:Nat):Int)=0 by unfold Av;rw[if_neg h];rfl);rw[show isI p m x=false from decide_eq_false (by rw[ho];exact h)]at HI;exact zbg
def DgOut(p m:Nat)(x:Nat)(w w':World)(v:Value):Prop:=∃g,v= .slice (some ⟨g,0,none⟩) m m/\AF w' w.heap.size 3 g m (iv (AK p m x))
theorem Ed(w:World)(hf:Hh p m ml)(x:Int):
  Calls Tryz.prog 167 #[.agg #[p,m,mv],x] w fun r w'=>∃v,r= .returned v/\DgOut p m (Av (p^m) x) w w' v/\Ex w w':=by
 obtain⟨d0,d1,d2,e0,_⟩:=AD w p m mv;have HI:=Aa (fun w=>Zn (mv:=mv) w hf x);have p2:=hf.p2;have m8:=hf.m8;have p256:=hf.p256;have hq:=hf.q;have hz:=Cc (show 1<=p^m from Nat.pow_pos ac) x;generalize Av (p^m) x=z at *;have aB:z<=65536:=bu;clear hz hf hq;go_enter Tryz.func167,Tryz.ntmps167
 go_wp2_with fail
 generalize w.alloc (.cells #[p,m,mv] 24)=w1 at *;have HW:=Aa e0.size;obtain⟨xb,aA⟩:=nA w.heap.size;rw[aA]at d0 d1 d2
 try simp only[aA]
 have HXB:=Aa aA;clear aA
 go_region_held3 (fun w'=>w'.cell? (xb,0)=some (.int .i64 p)/\w'.cell? (xb,1)=some (.int .i64 m)/\w'.cell? (xb,2)=some mv/\Ex w w')
  (first|exact⟨d0,d1,d2,e0.drew⟩|exact⟨hx1.cell d0,hx1.cell d1,hx1.cell d2,e0.drew.trans hx1⟩|(obtain⟨k0,k1,k2,k3⟩:=‹_/\_/\_/\Ex w _›;exact⟨hx1.cell k0,hx1.cell k1,hx1.cell k2,k3.trans hx1⟩))
  ((first
      | (go_at_call 207;refine(HI.o _).mono ?_;rintro e w2⟨rfl,hx1⟩)
      | (go_at_call 171;refine(JT _ _ _ _ aB ac ac ac).mono ?_;rintro e w3⟨v,rfl,⟨g,rfl,hg1,hg2⟩,hx1⟩)))
 go_wp2_with fail
 go_ret;have hE:=(‹_/\_/\_/\Ex w _›).2.2.2;exact⟨_,rfl,⟨g,rfl,hg2.mono (by
  have:=hx1.size;have h1:=(e0.drew.trans ‹Ex w1.drew w2›).size;omega)⟩,hE⟩
theorem zcZ{P:Prop}(h:P:=by
 go_wp2_with fail
 go_ret;exact⟨Af HF.o.symm,e0.trans hx⟩):P:=h
theorem H7(w:World)(hf:Hh p m ml)(l:List Int)(v:Value)(hl:Aj w v l)(hb:∀x∈l,0<=x/\x<p)(hq:p^l.length<=65536):
  Calls Tryz.prog 168 #[.agg #[p,m,mv],v] w fun r w'=>r= .returned (.int .i64 (vl p l))/\Ex w w':=by
 obtain⟨d0,d1,d2,e0,_⟩:=AD w p m mv;obtain⟨a,cap,rfl,s1,s2,s3⟩:=(hl.ex e0).open;have p2:=hf.p2;have p256:=hf.p256;have hp:1<=p:=ac;unfold maxLen at s2;have S3:=Aa s3;have HV:=Aa (show vl p l=vl p (l.drop 0) from rfl);have HR:=Aa (show ∀k,0<=vl p (l.drop k)/\vl p (l.drop k)*(p:Int)<=16777216/\vl p (l.drop k)<=65536 from fun k=>by
  obtain⟨h1,h2⟩:=Rc hp (l.drop k) fun x hx=>hb x (List.mem_of_mem_drop hx);have h3:p^(l.drop k).length<=p^l.length:=Nat.pow_le_pow_right hp (by rw[List.length_drop];omega);have h4:=Int.mul_le_mul (show vl p (l.drop k)<=65536 by omega) (show(p:Int)<=256 by omega) ac ac;exact⟨h1,h4,ac⟩)
 have HX:=Aa (show ∀(k:Nat) (x:Int),l[k]?=some x->0<=x/\x<=256 from fun k x h=>by have:=hb x (List.mem_of_getElem? h);omega);have HN:=Aa (show vl p (l.drop l.length)=0 by rw[List.drop_length];rfl);clear hl s3 hb hq hf;go_enter Tryz.func168,Tryz.ntmps168
 go_wp2_with fail
 generalize w.alloc (.cells #[p,m,mv] 24)=w1 at *
 go_loopw [5,6] (fun x' i' wr=>∃k:Nat,k<=l.length/\i'= .int .i64 ((k:Int)-1)/\x'= .int .i64 (vl p (l.drop k))/\Ex w1 wr) (fun _ i' _=>(intOf i'+1).toNat)
 case atStart=>exact⟨l.length,ac,rfl,by rw[HN.o],Ex.refl _⟩
 case round=>
  obtain⟨k,hk,rfl,rfl,hx⟩:=hrel;obtain⟨r1,r2,r3⟩:=HR.o k;rcases k with _|k
  .have HF:=Aa HV.o;generalize vl p (l.drop 0)=y at *;exact zcZ
  .have r0:0<=vl p (l.drop (k+1))*(p:Int):=Int.mul_nonneg r1 ac;obtain⟨x,aA⟩:∃x,l[k]?=some x:=⟨_,List.getElem?_eq_getElem ac⟩;obtain⟨b,o,rfl,hc⟩:=S3.o ac;have c1:=hx.cell (hc k x aA);have c0:=hx.cell d0;obtain⟨x1,x2⟩:=HX.o k x aA;have HG:=Aa (codGo p l k x aA);have e:(((k+1:Nat)):Int)-1=k:=by omega
   rw[e];have hkl:k<l.length:=ac;clear hc aA e;generalize vl p (l.drop (k+1))=y at *;have i1:IntKind.i64.wrap (y*(p:Int))=y*(p:Int):=IntWalk.i64_in _ ac;have i2:IntKind.i64.wrap (y*(p:Int)+x)=y*(p:Int)+x:=IntWalk.i64_in _ ac;go_wp2_with fail
   go_quiet (fail)
   clear i1 i2;go_wp2_with fail
   go_roundw
   case rel=>exact⟨k,ac,rfl,by rw[HG.o],hx.drewN _⟩
   case measure=>simp[intOf]
end
section
variable {p m:Nat} {ml:List Int} {mv:Value}
theorem OH{n:Nat}{f:Nat->Int}{z:Int}(h:z∈il n f):∃j,j<n/\f j=z:=by
 obtain⟨j,hj,rfl⟩:=List.mem_map.1 h;exact⟨j,List.mem_range.1 hj,rfl⟩
theorem Pt{α:Type}(A B:Nat->α)(i:Nat):∀j,Ay (fun j=>if j<i then A j else B j) i (A i) j=if j<i+1 then A j else B j:=fun j=>by
 unfold Ay;by_cases h:j=i
 .subst h;rw[if_pos rfl,if_pos ac]
 .rw[if_neg h];dsimp only;by_cases h2:j<i
  .rw[if_pos h2,if_pos ac]
  .rw[if_neg h2,if_neg ac]
theorem Wj(w:World)(hf:Hh p m ml)(aM:Aj w mv ml)(x y:Int):
  Calls Tryz.prog 266 #[.agg #[p,m,mv],x,y] w fun r w'=>r= .returned (.int .i64 (AH p m (Av (p^m) x) (Av (p^m) y):Nat))/\Ex w w':=by
 obtain⟨d0,d1,d2,e0,aL⟩:=AD w p m mv;have aW:=Aa (fun w=>Ed (mv:=mv) w hf x);have aV:=Aa (fun w=>Ed (mv:=mv) w hf y);have aQ:=Aa (fun w l v h1 h2 h3=>H7 (mv:=mv) w hf l v h1 h2 h3);have p2:=hf.p2;have m8:=hf.m8;have p256:=hf.p256;have hq:=hf.q;have HK:=Aa (Qk (show 1<=p by omega) m (Av (p^m) x) (Av (p^m) y));generalize Av (p^m) x=z at *;generalize Av (p^m) y=t at *;have aP:=Aa (DF (show 1<=p by omega) m z);have aO:=Aa (DF (show 1<=p by omega) m t);have HQ:=Aa hq;clear hf aM hq;go_enter Tryz.func266,Tryz.ntmps266
 go_wp2_with fail
 generalize w.alloc (.cells #[p,m,mv] 24)=w1 at *;refine(aW.o _).mono ?_;rintro e w2⟨v,rfl,⟨g,rfl,hg⟩,aC⟩;have r0:=aC.cell d0;have r1:=aC.cell d1;have r2:=aC.cell d2;go_wp2_with fail
 refine(aV.o _).mono ?_;rintro e w3⟨v,rfl,⟨k,rfl,hk⟩,aF⟩;have aN:g≠k:=by
  have:=hg.lt.2;have:=hk.lt.1;omega
 have aI:=Aa (show AF w3 w1.heap.size 3 g m (iv fun j=>if j<0 then(AK p m z j+AK p m t j)%(p:Int) else AK p m z j) from(hg.ex aF).icongr fun j _=>ag);have aH:=Aa (hk.mono (show w1.heap.size<=w2.heap.size from aC.size));have aA:=aC.trans aF;have HE:=Aa e0;have HS:=Aa (e0.size);have s0:=aA.cell d0;have s1:=aA.cell d1;have s2:=aA.cell d2;clear hg hk aC aF r0 r1 r2 e0 aL;go_wp2_with fail
 clear s0 s1 s2
 go_loopw [9] (fun i' wr=>∃i:Nat,i<=m/\i'= .int .i64 i/\Hia (AF wr w1.heap.size 3 g m (iv fun j=>if j<i then(AK p m z j+AK p m t j)%(p:Int) else AK p m z j))/\Hia (AF wr w1.heap.size 3 k m (iv (AK p m t)))/\Ex w1 wr) (fun i' _=>m-(intOf i').toNat)
 case atStart=>exact⟨0,ac,rfl,aI,aH,aA⟩
 case round=>
  clear aI aH aA;obtain⟨i,hi,rfl,aB,aE,hx⟩:=hrel;have c0:=hx.cell d0;have c1:=hx.cell d1;have c2:=hx.cell d2;by_cases hlt:i<m
  .have ca:wr.cell? (g,i)=some (.int .i64 (AK p m z i)):=by rw[aB.o.cell hlt];unfold iv;simp
   have cb:wr.cell? (k,i)=some (.int .i64 (AK p m t i)):=aE.o.cell hlt;have fa:=aB.o.frz i;obtain⟨z1,z2⟩:=aP.o i;obtain⟨t1,t2⟩:=aO.o i;obtain⟨aG,aS,aR,aJ⟩:=Eq (aB.o.set i (.int .i64 ((AK p m z i+AK p m t i)%(p:Int)))) (aE.o.other (a:=(g,i)) aN.symm (.int .i64 ((AK p m z i+AK p m t i)%(p:Int)))) (aB.o.exSet (Nat.le_refl _) hx i (.int .i64 ((AK p m z i+AK p m t i)%(p:Int)))) (Pt (fun j=>(AK p m z j+AK p m t j)%(p:Int)) (fun j=>AK p m z j) i);have aU:Hia (AF (wr.setCell (g,i) (.int .i64 ((AK p m z i+AK p m t i)%(p:Int)))) w1.heap.size 3 g m (iv fun j=>if j<i+1 then(AK p m z j+AK p m t j)%(p:Int) else AK p m z j)):=Aa (by
    have:=aG.o;rw[CD]at this;exact this.icongr fun j _=>aJ.o j)
   clear aG aJ aB aE;generalize AK p m z i=u at *;generalize AK p m t i=v at *;have i1:IntKind.i64.wrap (u+v)=u+v:=IntWalk.i64_in _ ac;have i2:(u+v).tmod (p:Int)=(u+v)%(p:Int):=Int.tmod_eq_emod_of_nonneg ac;have p0:¬p=0:=bu;go_wp2_with fail
   go_still_tail 15,ah
   change wpList _ _ _ _ _ wr.drew
   clear i1 i2;go_wp2_with fail
   go_roundw
   case rel=>exact⟨i+1,ac,by go_num,Aa aU.o.drew,Aa aS.o.drew,aR.o.drew⟩
   case measure=>simp[intOf];omega
  .obtain rfl:i=m:=by omega
   have aD:AF wr w1.heap.size 3 g i (iv fun j=>(AK p i z j+AK p i t j)%(p:Int)):=aB.o.icongr fun j hj=>if_pos hj;have HL:=Aa aD.isl;have HB:=Aa (show ∀a∈il i (fun j=>(AK p i z j+AK p i t j)%(p:Int)),0<=a/\a<p from fun a ha=>by
    obtain⟨j,_,rfl⟩:=OH ha;exact⟨Int.emod_nonneg _ ac,Int.emod_lt_of_pos _ ac⟩)
   have aT:=Aa (show p^(il i (fun j=>(AK p i z j+AK p i t j)%(p:Int))).length<=65536 by rw[Ao];have:=HQ.o;omega);have HR:=Aa (show vl p (il i (fun j=>(AK p i z j+AK p i t j)%(p:Int)))=((AH p i z t:Nat):Int) by rw[Pp,HK.o]);clear aD aB aE;go_wp2_with fail
   refine(aQ.o _ _ _ HL.o HB.o aT.o).mono ?_;rintro e w4⟨rfl,aK⟩;go_wp2_with fail
   go_ret;exact⟨Af HR.o,(HE.o.trans hx).trans aK⟩
theorem We(w:World)(hf:Hh p m ml)(x:Int):
  Calls Tryz.prog 246 #[.agg #[p,m,mv],x] w fun r w'=>r= .returned (.int .i64 (CI p m (Av (p^m) x):Nat))/\Ex w w':=by
 obtain⟨d0,d1,d2,e0,aH⟩:=AD w p m mv;have aQ:=Aa (fun w=>Ed (mv:=mv) w hf x);have aJ:=Aa (fun w l v h1 h2 h3=>H7 (mv:=mv) w hf l v h1 h2 h3);have p2:=hf.p2;have m8:=hf.m8;have p256:=hf.p256;have hq:=hf.q;have HK:=Aa (Qj (show 1<=p by omega) m (Av (p^m) x));generalize Av (p^m) x=z at *;obtain⟨F,hF⟩:∃F:Nat->Int,(fun j=>((p:Int)-AK p m z j)%(p:Int))=F:=⟨_,rfl⟩;have aP:=Aa (fun j=>congrFun hF j);have aO:=Aa (show ∀j,0<=F j/\F j<p from fun j=>by rw[<-hF];exact⟨Int.emod_nonneg _ ac,Int.emod_lt_of_pos _ ac⟩);rw[hF]at HK;clear hF;have aI:=Aa (DF (show 1<=p by omega) m z);have HQ:=Aa hq;clear hf hq;go_enter Tryz.func246,Tryz.ntmps246
 go_wp2_with fail
 generalize w.alloc (.cells #[p,m,mv] 24)=w1 at *;refine(aQ.o _).mono ?_;rintro e w2⟨v,rfl,⟨g,rfl,hg⟩,aB⟩;have aE:=Aa (show AF w2 w1.heap.size 3 g m (iv fun j=>if j<0 then F j else AK p m z j) from hg.icongr fun j _=>ag);have HE:=Aa e0;have s0:=aB.cell d0;have s1:=aB.cell d1;have s2:=aB.cell d2;clear hg e0 aH;go_wp2_with fail
 clear s0 s1 s2
 go_loopw [6] (fun i' wr=>∃i:Nat,i<=m/\i'= .int .i64 i/\Hia (AF wr w1.heap.size 3 g m (iv fun j=>if j<i then F j else AK p m z j))/\Ex w1 wr) (fun i' _=>m-(intOf i').toNat)
 case atStart=>exact⟨0,ac,rfl,aE,aB⟩
 case round=>
  clear aE aB;obtain⟨i,hi,rfl,aA,hx⟩:=hrel;have c0:=hx.cell d0;have c1:=hx.cell d1;have c2:=hx.cell d2;by_cases hlt:i<m
  .have ca:wr.cell? (g,i)=some (.int .i64 (AK p m z i)):=by rw[aA.o.cell hlt];unfold iv;simp
   have fa:=aA.o.frz i;obtain⟨z1,z2⟩:=aI.o i;have aD:=Aa (aA.o.set i (.int .i64 (F i)));have aK:=Aa (aA.o.exSet (Nat.le_refl _) hx i (.int .i64 (F i)));have aF:=Aa (Pt F (fun j=>AK p m z j) i);have aN:Hia (AF (wr.setCell (g,i) (.int .i64 (F i))) w1.heap.size 3 g m (iv fun j=>if j<i+1 then F j else AK p m z j)):=Aa (by
    have:=aD.o;rw[CD]at this;exact this.icongr fun j _=>aF.o j)
   clear aD aF aA;have i3:((p:Int)-AK p m z i)%(p:Int)=F i:=aP.o i;have aM:=Aa i3;clear i3;generalize AK p m z i=u at *;have i1:IntKind.i64.wrap ((p:Int)-u)=(p:Int)-u:=IntWalk.i64_in _ ac;have i2:((p:Int)-u).tmod (p:Int)=F i:=by rw[Int.tmod_eq_emod_of_nonneg ac];exact aM.o
   have p0:¬p=0:=ac;go_wp2_with fail
   go_still_tail 13,ah
   change wpList _ _ _ _ _ wr.drew
   clear i1 i2;go_wp2_with fail
   go_roundw
   case rel=>exact⟨i+1,ac,by go_num,Aa aN.o.drew,aK.o.drew⟩
   case measure=>simp[intOf];omega
  .obtain rfl:i=m:=by omega
   have aC:AF wr w1.heap.size 3 g i (iv F):=aA.o.icongr fun j hj=>if_pos hj;have HL:=Aa aC.isl;have HB:=Aa (show ∀a∈il i F,0<=a/\a<p from fun a ha=>by
    obtain⟨j,_,rfl⟩:=OH ha;exact aO.o j)
   have aL:=Aa (show p^(il i F).length<=65536 by rw[Ao];have:=HQ.o;omega);have HR:=Aa (show vl p (il i F)=((CI p i z:Nat):Int) by rw[Pp,HK.o]);clear aC aA;go_wp2_with fail
   refine(aJ.o _ _ _ HL.o HB.o aL.o).mono ?_;rintro e w4⟨rfl,aG⟩;go_wp2_with fail
   go_ret;exact⟨Af HR.o,(HE.o.trans hx).trans aG⟩
end
end Go.Proofs.YtehieobniamagaaGreat
