/- A region that draws its order, by one invariant: each operation is shown once, whatever has come up before it. -/
import Derived.Test.YtehieobniamagaaGreatZp01
import Derived.Test.YtehieobniamagaaGreatZp02
namespace Go.Proofs.YtehieobniamagaaGreat
set_option linter.unusedVariables false
set_option linter.unusedSimpArgs false
set_option maxRecDepth 100000
set_option maxHeartbeats 4000000
section
open Go.RowKit
def LQ(n:Nat):List Oper->Nat->List Nat->Bool
 | [],_,_=>true
 | o :: l,k,seen=>o.guard.isNone&&(o.after.all fun e=>decide (e.on<k))&&(match o.dst with
  | none=>LQ n l (k+1) seen
  | some d=>decide (d<n) && !seen.contains d&&LQ n l (k+1) (d :: seen))
structure Q6(ops:Array Oper)(n:Nat):Prop where
 free:∀(i:Nat) (o:Oper),ops[i]?=some o->o.guard=none
 wait:∀(i:Nat) (o:Oper),ops[i]?=some o->∀e∈o.after,(e:Edge).on<i
 lt:∀(i:Nat) (o:Oper) (d:Nat),ops[i]?=some o->o.dst=some d->d<n
 inj:∀(i j:Nat) (oi oj:Oper) (d:Nat),ops[i]?=some oi->ops[j]?=some oj->oi.dst=some d->oj.dst=some d->i=j
theorem zaA{P:Prop}(h:P:=by
 rw[hd]at h3;simp only[Bool.and_eq_true]at h3;refine⟨by simpa using h3.1.1,by simpa using h3.1.2,fun j oj hj=>by omega⟩):P:=h
theorem zaU{P:Prop}(h:P:=by
 obtain⟨c1,c2,c3⟩:=c d hd;refine⟨c1,fun h=>c2 (List.mem_cons_of_mem _ h),fun j oj hj ho=>?_⟩
 cases j with
 | zero=>
  simp at ho;subst ho;rw[hdo];intro e;injection e with e;exact c2 (by rw[e];exact List.mem_cons_self ..)
 | succ j=>simp at ho;exact c3 j oj (by omega) ho):P:=h
theorem zbb{P:Prop}(h:P:=by
 obtain⟨c1,c2,c3⟩:=c d hd;refine⟨c1,c2,fun j oj hj ho=>?_⟩
 cases j with
 | zero=>simp at ho;subst ho;rw[hdo];simp
 | succ j=>simp at ho;exact c3 j oj (by omega) ho):P:=h
theorem Hb(n:Nat):∀(l:List Oper) (k:Nat) (aA:List Nat),LQ n l k aA=true->∀(i:Nat) (o:Oper),l[i]?=some o->
  o.guard=none/\(∀e∈o.after,e.on<k+i)/\∀d,o.dst=some d->d<n/\d ∉ aA/\∀j oj,j<i->l[j]?=some oj->oj.dst≠some d
 | [],_,_,_,i,o,h=>by simp at h
 | o :: l,k,aA,h,i,o',hi=>by
  unfold LQ at h;rw[Bool.and_eq_true,Bool.and_eq_true]at h;obtain⟨⟨h1,h2⟩,h3⟩:=h
  cases i with
  | zero=>
   simp at hi;subst hi;refine⟨by simpa using h1,fun e he=>?_,fun d hd=>?_⟩
   .rw[Array.all_eq_true_iff_forall_mem]at h2;have:=h2 e he;simpa using this
   .exact zaA
  | succ i=>
   simp at hi
   cases hdo:o.dst with
   | none=>
    rw[hdo]at h3;obtain⟨a,b,c⟩:=Hb n l (k+1) aA h3 i o' hi;refine⟨a,fun e he=>by have:=b e he;omega,fun d hd=>?_⟩;exact zbb
   | some d0=>
    rw[hdo]at h3;simp only[Bool.and_eq_true]at h3;obtain⟨a,b,c⟩:=Hb n l (k+1) (d0 :: aA) h3.2 i o' hi;refine⟨a,fun e he=>by have:=b e he;omega,fun d hd=>?_⟩;exact zaU
theorem Xn{l:List Oper}{n:Nat}(h:LQ n l 0 []=true):Q6 l.toArray n:=by
 have aA:=Hb n l 0 [] h;have hg:∀(i:Nat) o,l.toArray[i]?=some o->l[i]?=some o:=fun i o h=>ay;refine⟨fun i o ho=>(aA i o (hg i o ho)).1,fun i o ho e he=>by have:=(aA i o (hg i o ho)).2.1 e he;omega,fun i o d ho hd=>((aA i o (hg i o ho)).2.2 d hd).1,fun i j oi oj d hi hj h1 h2=>?_⟩;rcases Nat.lt_trichotomy i j with e|e|e
 .exact absurd h1 (((aA j oj (hg j oj hj)).2.2 d h2).2.2 i oi e (hg i oi hi))
 .exact e
 .exact absurd h2 (((aA i oi (hg i oi hi)).2.2 d h1).2.2 j oj e (hg j oj hj))
structure E3(ops:Array Oper)(a0:Act)(L:Nat->Bool)(vals:Nat->Value)(a:Act):Prop where
 sz:a.tmps.size=a0.tmps.size
 df:a.defers=a0.defers
 got:∀(i:Nat) (o:Oper) (d:Nat),L i=true->ops[i]?=some o->o.dst=some d->a.tmps[d]?=some (vals i)
 old:∀(s:Nat),(∀(i:Nat) (o:Oper),L i=true->ops[i]?=some o->o.dst≠some s)->a.tmps[s]?=a0.tmps[s]?
section
variable {ops:Array Oper} {a0 a a':Act} {L L':Nat->Bool} {vals:Nat->Value}
theorem E3.congr(h:E3 ops a0 L vals a)(hL:∀i,i<ops.size->L i=L' i):E3 ops a0 L' vals a:=by
 have hs:∀i o,ops[i]?=some o->i<ops.size:=fun i o h=>(Array.getElem?_eq_some_iff.1 h).1;exact⟨h.sz,h.df,fun i o d hi ho hd=>h.got i o d (by rw[hL i (hs i o ho)];exact hi) ho hd,fun s hn=>h.old s fun i o hi ho=>hn i o (by rw[<-hL i (hs i o ho)];exact hi) ho⟩
theorem E3.uniq(h:E3 ops a0 L vals a)(k:E3 ops a0 L vals a'):a=a':=by
 have h1:a.tmps=a'.tmps:=by
  apply Array.ext_getElem?;intro s;by_cases hs:∃i o,L i=true/\ops[i]?=some o/\o.dst=some s
  .obtain⟨i,o,h1,h2,h3⟩:=hs;rw[h.got i o s h1 h2 h3,k.got i o s h1 h2 h3]
  .rw[h.old s fun i o h1 h2 h3=>hs ⟨i,o,h1,h2,h3⟩,k.old s fun i o h1 h2 h3=>hs ⟨i,o,h1,h2,h3⟩]
 have h2:a.defers=a'.defers:=h.df.trans k.df.symm;cases a;cases a'
 simp only at h1 h2;subst h1 h2;rfl
theorem zai{P:Prop}(h:P:=by
 show(a.tmps.setIfInBounds d0 v)[d]?=_
 by_cases e:j=i
 .subst e;rw[ho]at aA;injection aA with aA;subst aA;rw[hd]at aB;injection aB with aB;subst aB;rw[Array.getElem?_setIfInBounds_self_of_lt aD,Ab]
 .have aC:d0≠d:=fun e2=>e (H.inj j i oj o d aA ho aB (by rw[hd,e2]));rw[Array.getElem?_setIfInBounds_ne aC,Ae _ _ e];rw[Ae _ _ e]at hj;exact h.got j oj d hj aA aB):P:=h
theorem zaj{P:Prop}(h:P:=by
 show(a.tmps.setIfInBounds d0 v)[s]?=_
 have aC:d0≠s:=fun e2=>hn i o (Ab _ _ _) ho (by rw[hd,e2]);rw[Array.getElem?_setIfInBounds_ne aC];exact h.old s fun j oj hj aA=>by
  by_cases e:j=i
  .subst e;rw[ho]at aA;injection aA with aA;subst aA;rw[hd];intro e2;injection e2 with e2;exact aC e2
  .exact hn j oj (by rw[Ae _ _ e];exact hj) aA):P:=h
theorem zax{P:Prop}(h:P:=by
 by_cases e:j=i
 .subst e;rw[ho]at aA;injection aA with aA;subst aA;rw[hd]at aB;cases aB
 .rw[Ae _ _ e]at hj ⊢;exact h.got j oj d hj aA aB):P:=h
theorem zaB{P:Prop}(h:P:=by
 by_cases e:j=i
 .subst e;rw[ho]at aA;injection aA with aA;subst aA;rw[hd];simp
 .exact hn j oj (by rw[Ae _ _ e];exact hj) aA):P:=h
theorem zaR{P:Prop}(h:P:=by
 cases hd:o.dst with
 | none=>
  refine⟨h.sz,h.df,fun j oj d hj aA aB=>?_,fun s hn=>h.old s fun j oj hj aA=>?_⟩
  .exact zax
  .exact zaB
 | some d0=>
  have aD:d0<a.tmps.size:=by rw[h.sz];exact H.lt i o d0 ho hd
  refine⟨by show(a.tmps.setIfInBounds d0 v).size=_;rw[Array.size_setIfInBounds];exact h.sz,h.df,fun j oj d hj aA aB=>?_,fun s hn=>?_⟩
  .exact zai
  .exact zaj):P:=h
theorem E3.step(H:Q6 ops a0.tmps.size)(h:E3 ops a0 L vals a){i:Nat}{o:Oper}(ho:ops[i]?=some o)(v:Value):E3 ops a0 (Ax L i true) (Ax vals i v) (a.put o.dst v):=by
 exact zaR
def BU(ops:List Oper)(vals:Nat->Value):Nat->Act->Act:=match ops with
 | []=>fun _ a=>a
 | o :: l=>fun k a=>BU l vals (k+1) (a.put o.dst (vals k))
end
theorem bf{P:Prop}(h:P:=by cases h):P:=h
theorem E3.init(ops:Array Oper)(a0:Act)(vals:Nat->Value):E3 ops a0 (fun _=>false) vals a0:=⟨rfl,rfl,fun i o d h=>bf,fun s _=>rfl⟩
theorem E3.putK{l0:List Oper}{a0:Act}(H:Q6 l0.toArray a0.tmps.size)(vals:Nat->Value):∀(l aA:List Oper) (a:Act),aA++l=l0->E3 l0.toArray a0 (fun i=>decide (i<aA.length)) vals a->E3 l0.toArray a0 (fun i=>decide (i<l0.length)) vals (BU l vals aA.length a)
 | [],aA,a,he,h=>by
  rw[List.append_nil]at he;subst he;exact h
 | o :: l,aA,a,he,h=>by
  have ho:l0.toArray[aA.length]?=some o:=by rw[<-he];simp
  have h1:=h.step H ho (vals aA.length);have e1:Ax (fun i=>decide (i<aA.length)) aA.length true=fun i=>decide (i<(aA ++ [o]).length):=by
   funext i;by_cases e:i=aA.length
   .subst e;rw[Ab];simp
   .rw[Ae _ _ e];simp;omega
  have e2:Ax vals aA.length (vals aA.length)=vals:=by
   funext i;by_cases e:i=aA.length
   .subst e;rw[Ab]
   .rw[Ae _ _ e]
  rw[e1,e2]at h1;have h2:=E3.putK H vals l (aA ++ [o]) (a.put o.dst (vals aA.length)) (by rw[<-he];simp) h1;rw[List.length_append]at h2;exact h2
theorem QR(p:Nat->Bool)(m:Nat): [m].countP p=if p m=true then 1 else 0:=by
 rw[List.countP_cons,List.countP_nil,Nat.zero_add]
theorem MI(L:Nat->Bool)(i:Nat)(hi:L i=false):∀m,(List.range m).countP (fun j=> !(Ax L i true) j)+(if i<m then 1 else 0)=(List.range m).countP (fun j=> !L j)
 | 0=>by simp
 | m+1=>by
  have ih:=MI L i hi m;rw[List.range_succ,List.countP_append,List.countP_append,QR,QR];by_cases e:m=i
  .subst e;rw[if_neg ac]at ih;rw[Ab,hi,if_neg ae,if_pos ac,if_pos ae];omega
  .rw[Ae _ _ e];by_cases e2:i<m
   .rw[if_pos e2]at ih;rw[if_pos (show i<m+1 by omega)];omega
   .rw[if_neg e2]at ih;rw[if_neg (show ¬i<m+1 by omega)];omega
def AC(F:Nat->Oper->Prop):List Oper->Nat->Prop
 | [],_=>True
 | o :: l,k=>F k o/\AC F l (k+1)
theorem AC.get{F:Nat->Oper->Prop}:∀ {l:List Oper} {k i:Nat} {o:Oper},AC F l k->l[i]?=some o->F (k+i) o
 | [],_,_,_,_,hi=>by cases hi
 | o :: l,k,0,o',h,hi=>by
  have:o=o':=Option.some.inj hi;subst this;exact h.1
 | o :: l,k,i+1,o',h,hi=>by
  have h1:F (k+1+i) o':=AC.get (l:=l) h.2 hi;rw[show k+(i+1)=k+1+i from ac];exact h1
section
variable {P:Program} {Q:Exit->Act->World->Prop} {J:(Nat->Bool)->(Nat->Value)->World->Prop} {a0:Act}
def R8(P:Program)(Q:Exit->Act->World->Prop)(J:(Nat->Bool)->(Nat->Value)->World->Prop)(ops:Array Oper)(a0:Act)(i:Nat)(o:Oper):Prop:=
 ∀L vals a w,E3 ops a0 L vals a->J L vals w->L i=false->(∀e∈o.after,Region.binds .any e=true->L e.on=true)->(∀(k:Nat) (o':Oper),L k=true->ops[k]?=some o'->∀e∈o'.after,Region.binds .any e=true->L e.on=true)->
  ∀K:Act->World->Prop,(∀v w',J (Ax L i true) (Ax vals i v) w'->K (a.put o.dst v) w')->o.wp P a w K Q
theorem zaC{P:Prop}(h:P:=by
 rw[Ae _ _ e];rw[Array.getD_eq_getD_getElem?,Array.getD_eq_getD_getElem?,Array.getElem?_setIfInBounds_ne (fun h=>e h.symm)]):P:=h
theorem zbg{P:Prop}(h:P:=by
 have h0:(List.range l.length).countP (fun i=> !listed.getD i false)=0:=by omega
 have:=List.countP_eq_zero.1 h0 i (List.mem_range.2 hi);simpa using this):P:=h
theorem bi{P:Prop}(h:P:=by simpa using (Array.getElem?_eq_some_iff.1 h2).1):P:=h
theorem Vm{l:List Oper}(H:Q6 l.toArray a0.tmps.size)(hs:AC (R8 P Q J l.toArray a0) l 0)
  (he:∀L vals w,(∀i,i<l.length->L i=true)->J L vals w->Q .normal (BU l vals 0 a0) w):
  ∀fuel (listed:Array Bool) a w vals,listed.size=l.length->(List.range l.length).countP (fun i=> !listed.getD i false)<=fuel->(∀(k:Nat) (o':Oper),listed.getD k false=true->l.toArray[k]?=some o'->∀e∈o'.after,Region.binds .any e=true->listed.getD e.on false=true)->E3 l.toArray a0 (fun i=>listed.getD i false) vals a->J (fun i=>listed.getD i false) vals w->wpAny P .any l.toArray Q fuel listed a w:=by
 have aE:∀(listed:Array Bool) a w vals,listed.size=l.length->(∀i,i<l.length->listed.getD i false=true)->E3 l.toArray a0 (fun i=>listed.getD i false) vals a->J (fun i=>listed.getD i false) vals w->Q .normal a w:=fun listed a w vals aB aA hf hj=>by
  have h1:=he _ vals w aA hj;have h2:=E3.putK H vals l [] a0 rfl ((E3.init l.toArray a0 vals).congr fun i hi=>ag);have h3:=hf.uniq (h2.congr fun i hi=>by
   have aI:i<l.length:=by simpa using hi
   simp only[aI,decide_true];exact(aA i aI).symm)
  rw[h3];exact h1
 have aA:∀(listed:Array Bool),listed.size=l.length->Region.ready .any l.toArray listed= []->∀i,i<l.length->listed.getD i false=true:=fun listed aB hr i=>by
  induction i using Nat.strongRecOn with
  | ind i ih=>
   intro hi
   cases hb:listed.getD i false with
   | true=>rfl
   | false=>
    exfalso;have ho:l.toArray[i]?=some l[i]:=by simp[hi]
    have hm:i∈Region.ready .any l.toArray listed:=mem_ready.2 ⟨by
     have aC:i<listed.size:=ac;simp[Array.getD,aC]at hb ⊢;exact hb,l[i],ho,fun e aM _=>by
     have hw:=H.wait i _ ho e aM;exact ih e.on hw ac⟩
    rw[hr]at hm;cases hm
 intro fuel
 induction fuel with
 | zero=>
  intro listed a w vals aB hc aH hf hj;have ha:∀i,i<l.length->listed.getD i false=true:=fun i hi=>by
   exact zbg
  refine⟨?_,aE listed a w vals aB ha hf hj⟩
  cases hr:Region.ready .any l.toArray listed with
  | nil=>rfl
  | cons x t=>
   exfalso;have hm:x∈Region.ready .any l.toArray listed:=by rw[hr];exact List.mem_cons_self ..
   obtain⟨h1,o,h2,_⟩:=mem_ready.1 hm;have hx:x<l.length:=bi;have h3:=ha x hx;have aC:x<listed.size:=ac;simp[Array.getD,aC]at h1 h3;rw[h1]at h3;cases h3
 | succ fuel ih=>
  intro listed a w vals aB hc aH hf hj;refine⟨fun hr=>aE listed a w vals aB (aA listed aB hr) hf hj,fun i hi=>?_⟩;obtain⟨h1,o,h2,h3⟩:=mem_ready.1 hi;have aL:i<l.length:=bi;have aC:i<listed.size:=ac;have aJ:listed.getD i false=false:=by
   simp[Array.getD,aC]at h1 ⊢;exact h1
  have aP:l[i]?=some o:=by simpa using h2
  have Bf:R8 P Q J l.toArray a0 (0+i) o:=hs.get aP;rw[Nat.zero_add]at Bf;have aF:(fun j=>(listed.setIfInBounds i true).getD j false)=Ax (fun j=>listed.getD j false) i true:=by
   funext j;by_cases e:j=i
   .subst e;rw[Ab];simp[Array.getD,aC]
   .exact zaC
  unfold wpOp;rw[h2];have hw:Region.wanted o (yielded l.toArray a.tmps)=true:=by simp[Region.wanted,H.free i o h2]
  simp only[hw,if_true];refine .inl (Bf _ vals a w hf hj aJ (fun e he hb=>h3 e he hb) aH _ fun v w' aK=>?_);have aG:∀(k:Nat) (o':Oper),(listed.setIfInBounds i true).getD k false=true->l.toArray[k]?=some o'->∀e∈o'.after,Region.binds .any e=true->(listed.setIfInBounds i true).getD e.on false=true:=fun k o' hk aD e he hb=>by
   have e1:=congrFun aF k;have e2:=congrFun aF e.on;rw[e1]at hk;rw[e2];by_cases h0:e.on=i
   .rw[h0,Ab]
   .rw[Ae _ _ h0];by_cases h4:k=i
    .subst h4;rw[h2]at aD;injection aD with aD;subst aD;exact h3 e he hb
    .rw[Ae _ _ h4]at hk;exact aH k o' hk aD e he hb
  refine ih _ _ _ (Ax vals i v) (by rw[Array.size_setIfInBounds];exact aB) ?_ aG (by rw[aF];exact hf.step H h2 v) (by rw[aF];exact aK);have aO:=MI (fun j=>listed.getD j false) i aJ l.length;rw[if_pos aL]at aO;have aN:(List.range l.length).countP (fun j=> !(listed.setIfInBounds i true).getD j false)=(List.range l.length).countP (fun j=> !(Ax (fun j=>listed.getD j false) i true) j):=by
   congr 1
   funext j;rw[<-congrFun aF j]
  rw[aN];omega
theorem E3.in_{l:List Oper}{L:Nat->Bool}{vals:Nat->Value}{a:Act}(hf:E3 l.toArray a0 L vals a)(k t:Nat){o:Oper}(hL:L k=true)(ho:l[k]?=some o)(hd:o.dst=some t):a.tmps[t]?=some (vals k):=
 hf.got k o t hL (by simpa using ho) hd
theorem E3.out_{l:List Oper}{L:Nat->Bool}{vals:Nat->Value}{a:Act}(hf:E3 l.toArray a0 L vals a)(t:Nat)(hn:(l.all fun o=>o.dst !=some t)=true):a.tmps[t]?=a0.tmps[t]?:=
 hf.old t fun i o _ ho hd=>by
  have aA:l[i]?=some o:=by simpa using ho
  have:=List.all_eq_true.1 hn o (List.mem_of_getElem? aA);rw[hd]at this;simp at this
theorem zbd{P:Prop}(h:P:=by
 funext i;rw[Array.getD_eq_getD_getElem?];by_cases h:i<l.toArray.size
 .rw[Array.getElem?_replicate,if_pos h];rfl
 .rw[Array.getElem?_replicate,if_neg h];rfl):P:=h
theorem CC{id:Nat}{l:List Oper}{w:World}(J:(Nat->Bool)->(Nat->Value)->World->Prop)(hm:P.follows .mixedOrders=true)(hB:LQ a0.tmps.size l 0 []=true)(h0:J (fun _=>false) (fun _=>undef) w.drew)
  (hs:AC (R8 P Q J l.toArray a0) l 0) (he:∀L vals w,(∀i,i<l.length->L i=true)->J L vals w->Q .normal (BU l vals 0 a0) w):(Code.region id l.toArray true).wp P Q a0 w:=by
 refine wp_region_any hm ?_;have hL:(fun i=>(Array.replicate l.toArray.size false).getD i false)=fun _=>false:=by
  exact zbd
 refine Vm (Xn hB) hs he _ _ _ _ (fun _=>undef) ag (Nat.le_trans List.countP_le_length ag) (fun k o' hk=>by have:=congrFun hL k;rw[this]at hk;cases hk) ?_ ?_
 .rw[hL];exact E3.init _ _ _
 .rw[hL];exact h0
theorem Bc{a:Act}{t:Nat}{v:Value}(h:a.tmps[t]?=some v):a.eval (.tmp t)=v:=by
 show a.tmps.getD t undef=v
 rw[Array.getD_eq_getD_getElem?,h];rfl
theorem Av{b:Bool}(h:¬b=true):b=false:=by cases b <;> simp_all
theorem BB{w:World}{o:Oper}{a:Act}{K:Act->World->Prop}(s x:Operand)(t:TypeId)
  (ho:o.op= .call { callee:= .builtin .append,args:= #[s,x],argTypes:= #[t,t] })
  (base:Nat) (e:TypeId) (z:Value) (size aA:Nat) (ht:P.underlying t=some (.slice e)) (hi:(P.info? e).map (fun i=>(i.zero,i.size,i.bytes))=some (some z,size,aA))
  (aE:z.cells.size=size) (aF:0<size) (v:Value) (n:Nat) (xs:List Value) (hs:a.eval s=v) (aD:w.ownsRow base e size v n xs)
  (xv:Value) (m:Nat) (news:List Value) (hx:a.eval x=xv) (aG:Sl w xv m size news) (h1:∀u∈news,u.oneCell'=true)
  (aH:n+m<=maxLen) (aB:(n+m)*aA<=140737488355328) (aC:base<=w.heap.size)
  (h:∀v' w',w'.ownsRow base e size v' (n+m) (xs++news)->w.grownBy w' v.ownBlock->(v'.ownBlock=v.ownBlock∨v'.ownBlock=some w.heap.size)->K (a.put o.dst v') w'):
  Oper.wp P o a w K Q:=by
 obtain⟨v',w',hr,h2,h3,h4⟩:=Ej (P:=P) w base t o.type e z size aA ht hi aE aF v n xs aD xv m news aG h1 aH aB aC;exact za9
theorem ES:∀(l:List Oper) (k:Nat) (V V':Nat->Value) (a:Act),(∀i o,l[i]?=some o->o.dst≠none->V (k+i)=V' (k+i))->BU l V k a=BU l V' k a
 | [],_,_,_,_,_=>rfl
 | o :: l,k,V,V',a,h=>by
  show BU l V (k+1) (a.put o.dst (V k))=BU l V' (k+1) (a.put o.dst (V' k))
  have e:a.put o.dst (V k)=a.put o.dst (V' k):=by
   cases hd:o.dst with
   | none=>rfl
   | some d=>rw[show V k=V' k from h 0 o rfl (by rw[hd];simp)]
  rw[e];exact ES l (k+1) V V' _ fun i o' hi hd=>by
   rw[show k+1+i=k+(i+1) from ac];exact h (i+1) o' hi hd
def OpQ(P:Program)(Q:Exit->Act->World->Prop)(l:List Oper)(a0:Act)(pv:Nat->Value)(wr:World)(F:World->World)(m i:Nat)(o:Oper):Prop:=
 ∀(L:Nat->Bool) (a:Act) (n:Nat),(∀k t o',L k=true->l[k]?=some o'->o'.dst=some t->a.tmps[t]?=some (pv k))->(∀t,(l.all fun o=>o.dst !=some t)=true->a.tmps[t]?=a0.tmps[t]?)->(∀e∈o.after,Region.binds .any e=true->L e.on=true)->
  ∀K:Act->World->Prop,(if i=m then K (a.put o.dst undef) (F (wr.drewN n)) else ∀n',K (a.put o.dst (pv i)) (wr.drewN n'))->o.wp P a (wr.drewN n) K Q
theorem Lx{id:Nat}{l:List Oper}{w:World}(pv:Nat->Value)(F:World->World)(m:Nat)(hm:P.follows .mixedOrders=true)(hB:LQ a0.tmps.size l 0 []=true)
  (hl:(match l[m]? with|some om=>l.length==m+1&&om.dst.isNone&&(List.range m).all fun k=>om.after.any fun e=>e.on==k&&Region.binds .any e|none=>false)=true)
  (hs:AC (OpQ P Q l a0 pv w F m) l 0) (he:∀n,Q .normal (BU l pv 0 a0) (F (w.drewN n))):(Code.region id l.toArray true).wp P Q a0 w:=by
 obtain⟨om,aF⟩:∃om,l[m]?=some om:=by
  cases h:l[m]? with
  | none=>rw[h]at hl;cases hl
  | some om=>exact⟨om,rfl⟩
 rw[aF]at hl;simp only[Bool.and_eq_true,beq_iff_eq]at hl;obtain⟨⟨hlen,aA⟩,aG⟩:=hl;have aM:om.dst=none:=by cases hd:om.dst with|none=>rfl|some d=>rw[hd]at aA;cases aA
 have aE:∀k,k<m->∃e∈om.after,(e:Edge).on=k/\Region.binds .any e=true:=fun k hk=>by
  have:=List.all_eq_true.1 aG k (List.mem_range.2 hk);rw[Array.any_eq_true']at this;obtain⟨e,he,h⟩:=this;rw[Bool.and_eq_true,beq_iff_eq]at h;exact⟨e,he,h.1,h.2⟩
 refine CC (fun L V w'=>(∀k,k≠m->L k=true->V k=pv k)/\(L m=false->∃n,w'=w.drewN n)/\(L m=true->∃n,w'=F (w.drewN n))) hm hB ⟨fun k _ h=>bf,fun _=>⟨1,rfl⟩,fun h=>bf⟩ ?_ ?_
 .have aI:∀(l':List Oper) (k0:Nat),(∀i o,l'[i]?=some o->l[k0+i]?=some o)->AC (OpQ P Q l a0 pv w F m) l' k0->AC (R8 P Q (fun L V w'=>(∀k,k≠m->L k=true->V k=pv k)/\(L m=false->∃n,w'=w.drewN n)/\(L m=true->∃n,w'=F (w.drewN n))) l.toArray a0) l' k0:=fun l'=>by
   induction l' with
   | nil=>intro _ _ _;trivial
   | cons o l' ih=>
    intro k0 aD h;refine⟨?_,ih (k0+1) (fun i o' hi=>by rw[show k0+1+i=k0+(i+1) from ac];exact aD (i+1) o' hi) h.2⟩;intro L V a w' hf hj hi hd aO K hK;have aJ:l[k0]?=some o:=by have:=aD 0 o rfl;simpa using this
    have hk0:k0<l.length:=(List.getElem?_eq_some_iff.1 aJ).1;have aH:L m=false:=by
     by_cases e:k0=m
     .rw[<-e];exact hi
     .refine Av fun hb=>?_;obtain⟨e2,h1,h2,h3⟩:=aE k0 ac;have:=aO m om hb (by simpa using aF) e2 h1 h3;rw[h2,hi]at this;cases this
    obtain⟨n,rfl⟩:=hj.2.1 aH;refine h.1 L a n (fun k t o' hk aK aN=>?_) (fun t ht=>hf.out_ t ht) hd K ?_
    .have aC:k≠m:=fun e=>by rw[e,aH]at hk;cases hk
     rw[<-hj.1 k aC hk];exact hf.in_ k t hk aK aN
    .by_cases e:k0=m
     .rw[if_pos e];refine hK undef _ ⟨fun k aC hk=>?_,fun h=>?_,fun _=>⟨n,rfl⟩⟩
      .rw[e]at hk ⊢;rw[Ae _ _ aC]at hk ⊢;exact hj.1 k aC hk
      .rw[e,Ab]at h;cases h
     .rw[if_neg e];intro n';refine hK (pv k0) _ ⟨fun k aC hk=>?_,fun _=>⟨n',rfl⟩,fun h=>?_⟩
      .by_cases e2:k=k0
       .rw[e2,Ab]
       .rw[Ae _ _ e2]at hk ⊢;exact hj.1 k aC hk
      .rw[Ae _ _ (fun e3=>e e3.symm),aH]at h;cases h
  exact aI l 0 (fun i o h=>by rw[Nat.zero_add];exact h) hs
 .intro L V w' aB hj;obtain⟨n,rfl⟩:=hj.2.2 (aB m ac);have hp:BU l V 0 a0=BU l pv 0 a0:=ES l 0 V pv a0 fun i o hi hd=>by
   rw[Nat.zero_add];have aL:i<l.length:=(List.getElem?_eq_some_iff.1 hi).1;refine hj.1 i (fun e=>hd ?_) (aB i aL);rw[e,aF]at hi;injection hi with hi;rw[<-hi];exact aM
  rw[hp];exact he n
end
end
section
open Go.RowKit
def Ja(p m:Int)(ml:List Int):Bool:=
 decide (CV p m≠0)&&(He p.toNat&&if m=1 then ml.length==0 else ml.length==m.toNat&&ml.all fun x=>decide (0<=x)&&decide (x<p))
theorem L7{p m:Int}(h:CV p m≠0):∃pn mn:Nat,p=pn/\m=mn/\2<=pn/\1<=mn/\mn<=8/\pn^mn<=256/\CV p m=((pn^mn:Nat):Int):=by
 unfold CV at h ⊢;split at h
 .rename_i hc;obtain⟨h1,h2,h3,h4⟩:=hc;obtain⟨pn,rfl⟩:=Int.eq_ofNat_of_zero_le (show 0<=p by omega);obtain⟨mn,rfl⟩:=Int.eq_ofNat_of_zero_le (show 0<=m by omega);rw[Int.toNat_natCast,<-Int.natCast_pow]at h4;refine⟨pn,mn,rfl,rfl,ac,ac,ac,ac,?_⟩;rw[if_pos ⟨h1,h2,h3,by rw[Int.toNat_natCast,<-Int.natCast_pow];exact h4⟩,Int.toNat_natCast,Int.natCast_pow]
 .exact absurd rfl h
theorem LF{p m:Int}{ml:List Int}(h:Ja p m ml=true):∃pn mn:Nat,p=pn/\m=mn/\Iz pn mn ml/\He pn=true/\CV p m=((pn^mn:Nat):Int):=by
 unfold Ja at h;simp only[Bool.and_eq_true,decide_eq_true_eq]at h;obtain⟨h1,h2,h3⟩:=h;obtain⟨pn,mn,rfl,rfl,a,b,c,d,e⟩:=L7 h1;refine⟨pn,mn,rfl,rfl,⟨a,b,c,d,?_,?_⟩,by simpa using h2,e⟩
 .split at h3
  .rename_i hm;rw[if_pos ac];simpa using h3
  .rename_i hm;simp only[Bool.and_eq_true,beq_iff_eq]at h3;rw[if_neg ac,h3.1];simp
 .intro x hx;split at h3
  .have:ml= []:=List.eq_nil_of_length_eq_zero (by simpa using h3);subst this;cases hx
  .simp only[Bool.and_eq_true,List.all_eq_true,decide_eq_true_eq]at h3;exact h3.2 x hx
theorem zbk{P:Prop}(h:P:=by
 unfold CV;rw[if_pos ⟨by omega,by omega,by omega,by rw[Int.toNat_natCast,<-Int.natCast_pow];omega⟩,Int.toNat_natCast,Int.natCast_pow]):P:=h
theorem Ra{pn mn:Nat}{ml:List Int}(h:Iz pn mn ml)(hp:He pn=true):Ja pn mn ml=true/\CV pn mn=((pn^mn:Nat):Int):=by
 obtain⟨a,b,c,d,e,f⟩:=h;have ho:CV pn mn=((pn^mn:Nat):Int):=by
  exact zbk
 refine⟨?_,ho⟩;have hq:1<=pn^mn:=Nat.pow_pos ac;unfold Ja;simp only[Bool.and_eq_true,decide_eq_true_eq];refine⟨by rw[ho];omega,by simpa using hp,?_⟩;by_cases h1:mn=1
 .rw[if_pos ac];rw[if_pos h1]at e;simp[e]
 .rw[if_neg ac];rw[if_neg h1]at e;simp only[Bool.and_eq_true,List.all_eq_true,decide_eq_true_eq];exact⟨by simp[e],f⟩
theorem ar{P:Prop}(h:P:=by rw[List.getElem?_eq_getElem hi,e]):P:=h
theorem dh{P:Prop}(h:P:=by rw[<-aC];simp):P:=h
theorem KL(p m:Int)(ml:List Int)(mv:Value)(w:World)(aO:Ak w mv ml):
  Calls Tryz.prog 111 #[.agg #[.int .i64 p,.int .i64 m,mv]] w fun r w'=>r= .returned (.bool (Ja p m ml))/\Ex w w':=by
 obtain⟨xb,aC⟩:=nA w.heap.size;have d0:(w.alloc (.cells #[.int .i64 p,.int .i64 m,mv] 24)).cell? ⟨xb,0,none⟩=some (.int .i64 p):=dh;have d1:(w.alloc (.cells #[.int .i64 p,.int .i64 m,mv] 24)).cell? ⟨xb,1,none⟩=some (.int .i64 m):=dh;have d2:(w.alloc (.cells #[.int .i64 p,.int .i64 m,mv] 24)).cell? ⟨xb,2,none⟩=some mv:=dh;have e0:Ex w (w.alloc (.cells #[.int .i64 p,.int .i64 m,mv] 24)):=(Ex.refl _).alloc _;have aI:=Aa (show Ja p m ml=(decide (CV p m≠0)&&(He p.toNat&&if m=1 then ml.length==0 else ml.length==m.toNat&&ml.all fun x=>decide (0<=x)&&decide (x<p))) from rfl);have aM:=aO.ex e0;obtain⟨ma,mc,rfl,m1,m2,m3⟩:=aM.open;have M3:=Aa m3;have DJ:=Hg p m;unfold maxLen at m2;clear aO aM m3;by_cases ho:CV p m=0
 .rw[ho]at aI DJ;clear ho;have aB:=Aa DJ;have D0:=Aa d0;have D1:=Aa d1;have D2:=Aa d2;clear DJ d0 d1 d2;go_enter Tryz.func111,Tryz.ntmps111
  have d0:=D0.o;have d1:=D1.o;have d2:=D2.o;go_wp2_with fail
  clear aC;generalize w.alloc (.cells #[.int .i64 p,.int .i64 m,.slice ma ml.length mc] 24)=w1 at *;clear D0 D1 D2;refine(aB.o _).mono ?_;rintro e w2⟨rfl,rfl⟩;go_wp2_with fail
  go_ret;exact⟨Ao (by rw[aI.o];simp),e0⟩
 .obtain⟨pn,mn,rfl,rfl,p2,q1,q8,qq,aN⟩:=L7 ho;have hpw:1<=pn^mn:=Nat.pow_pos ac;have aF:pn<=256:=by
   have h1:pn^1<=pn^mn:=Nat.pow_le_pow_right ac q1;rw[Nat.pow_one]at h1;omega
  rw[aN]at DJ;have hb0:(((pn^mn:Nat):Int)==0)=false:=by rw[beq_eq_false_iff_ne];omega
  have aA:=Aa (show Ja pn mn ml=(He pn&&if (mn:Int)=1 then ml.length==0 else ml.length==mn&&ml.all fun x=>decide (0<=x)&&decide (x<pn)) by
   rw[aI.o,decide_eq_true ho];simp)
  have aD:=fun w=>NN pn w p2 aF;generalize pn^mn=qn at *;clear ho aN aI;by_cases hpr:He pn=true
  .rw[hpr]at aA aD;have aH:=Aa aD;clear aD hpr;by_cases hm1:mn=1
   .have aL:((mn:Int)==1)=true:=by simp;omega
    have HR:=Aa (show Ja pn mn ml=((ml.length:Int)==0) by rw[aA.o,if_pos ac,Bool.true_and,Bool.eq_iff_iff];simp);clear hm1 aA;have aB:=Aa DJ;have D0:=Aa d0;have D1:=Aa d1;have D2:=Aa d2;clear DJ d0 d1 d2;go_enter Tryz.func111,Tryz.ntmps111
    have d0:=D0.o;have d1:=D1.o;have d2:=D2.o;go_wp2_with fail
    clear aC;generalize w.alloc (.cells #[.int .i64 pn,.int .i64 mn,.slice ma ml.length mc] 24)=w1 at *;clear D0 D1 D2;refine(aB.o _).mono ?_;rintro e w2⟨rfl,rfl⟩;go_wp2_with fail
    refine(aH.o _).mono ?_;rintro e w2⟨rfl,rfl⟩;go_wp2_with fail
    go_ret;exact⟨Ao (by rw[HR.o]),e0⟩
   .have aL:((mn:Int)==1)=false:=by simp;omega
    have HR:=Aa (show Ja pn mn ml=(ml.length==mn&&ml.all fun x=>decide (0<=x)&&decide (x<pn)) by rw[aA.o,if_neg ac,Bool.true_and]);clear hm1 aA;by_cases hlen:ml.length=mn
    .have aQ:((ml.length:Int)==(mn:Int))=true:=by simp;omega
     have aP:((ml.length:Int) !=(mn:Int))=false:=al;have aJ:=Aa (show Ja pn mn ml=ml.all fun x=>decide (0<=x)&&decide (x<pn) by rw[HR.o,show(ml.length==mn)=true by simp[hlen],Bool.true_and]);clear hlen HR;have aB:=Aa DJ;have D0:=Aa d0;have D1:=Aa d1;have D2:=Aa d2;clear DJ d0 d1 d2;go_enter Tryz.func111,Tryz.ntmps111
     have d0:=D0.o;have d1:=D1.o;have d2:=D2.o;go_wp2_with fail
     clear aC;generalize w.alloc (.cells #[.int .i64 pn,.int .i64 mn,.slice ma ml.length mc] 24)=w1 at *;clear D0 D1 D2;refine(aB.o _).mono ?_;rintro e w2⟨rfl,rfl⟩;go_wp2_with fail
     refine(aH.o _).mono ?_;rintro e w2⟨rfl,rfl⟩;go_wp2_with fail
     go_loopw [4,33] (fun _ j' wr=>∃j:Nat,j<=ml.length/\j'= .int .i64 j/\Hia (∀i y,i<j->ml[i]?=some y->0<=y/\y<pn)/\w1=wr) (fun _ j' _=>ml.length-(intOf j').toNat)
     case atStart=>exact⟨0,ac,rfl,Aa (fun i y h=>ac),rfl⟩
     case round=>
      obtain⟨j,hj,rfl,aG,rfl⟩:=hrel;by_cases hlt:j<ml.length
      .obtain⟨y,hy⟩:∃y,ml[j]?=some y:=⟨_,List.getElem?_eq_getElem hlt⟩;obtain⟨b,o,rfl,hc⟩:=M3.o ac;have c1:=hc j y hy;by_cases hy0:0<=y/\y<pn
       .have HA:=Aa (show ∀i z,i<j+1->ml[i]?=some z->0<=z/\z<pn from fun i z hi hz=>by
         by_cases e:i=j
         .subst e;rw[hy]at hz;injection hz with hz;subst hz;exact hy0
         .exact aG.o i z ac hz)
        obtain⟨y0,y1⟩:=hy0;clear hc hy;go_wp2_with fail
        go_roundw
        case rel=>exact⟨j+1,ac,by go_num,HA,by first|trivial|rfl⟩
        case measure=>simp[intOf];omega
       .have HF:=Aa (show Ja pn mn ml=false by
         rw[aJ.o,List.all_eq_false];refine⟨y,List.mem_of_getElem? hy,?_⟩;simpa using hy0)
        have aK:y<0∨(0<=y/\(pn:Int)<=y):=ac;clear hc hy hy0;rcases aK with aK|⟨aK,hy2⟩
        all_goals
         go_wp2_with fail
         go_ret;exact⟨Ao HF.o.symm,e0⟩
      .obtain rfl:j=ml.length:=by omega
       have HT:=Aa (show Ja pn mn ml=true by
        rw[aJ.o,List.all_eq_true];intro y hy;obtain⟨i,hi,e⟩:=List.getElem_of_mem hy;have:=aG.o i y hi ar;simp[this])
       go_wp2_with fail
       go_ret;exact⟨Ao HT.o.symm,e0⟩
    .have aQ:((ml.length:Int)==(mn:Int))=false:=by simp;omega
     have aP:((ml.length:Int) !=(mn:Int))=true:=al;have aJ:=Aa (show Ja pn mn ml=false by rw[HR.o,show(ml.length==mn)=false by simp[hlen],Bool.false_and]);clear hlen HR;have aB:=Aa DJ;have D0:=Aa d0;have D1:=Aa d1;have D2:=Aa d2;clear DJ d0 d1 d2;go_enter Tryz.func111,Tryz.ntmps111
     have d0:=D0.o;have d1:=D1.o;have d2:=D2.o;go_wp2_with fail
     clear aC;generalize w.alloc (.cells #[.int .i64 pn,.int .i64 mn,.slice ma ml.length mc] 24)=w1 at *;clear D0 D1 D2;refine(aB.o _).mono ?_;rintro e w2⟨rfl,rfl⟩;go_wp2_with fail
     refine(aH.o _).mono ?_;rintro e w2⟨rfl,rfl⟩;go_wp2_with fail
     go_ret;exact⟨Ao aJ.o.symm,e0⟩
  .have aE:He pn=false:=by simpa using hpr
   rw[aE]at aA aD;have aH:=Aa aD;clear aD hpr aE;have aB:=Aa DJ;have D0:=Aa d0;have D1:=Aa d1;have D2:=Aa d2;clear DJ d0 d1 d2;go_enter Tryz.func111,Tryz.ntmps111
   have d0:=D0.o;have d1:=D1.o;have d2:=D2.o;go_wp2_with fail
   clear aC;generalize w.alloc (.cells #[.int .i64 pn,.int .i64 mn,.slice ma ml.length mc] 24)=w1 at *;clear D0 D1 D2;refine(aB.o _).mono ?_;rintro e w2⟨rfl,rfl⟩;go_wp2_with fail
   refine(aH.o _).mono ?_;rintro e w2⟨rfl,rfl⟩;go_wp2_with fail
   go_ret;exact⟨Ao (by rw[aA.o];simp),e0⟩
structure AR(w:World)(b:Nat)(p m:Nat)(ml:List Int)(x:Nat):Prop where
 sh:Iz p m ml
 pr:He p=true
 gen:CF p m (lw ml) x
 c0:w.cell? ⟨b,0,none⟩=some (.int .i64 p)
 c1:w.cell? ⟨b,1,none⟩=some (.int .i64 m)
 c2:∃v,w.cell? ⟨b,2,none⟩=some v/\Ak w v ml
 c3:w.cell? ⟨b,3,none⟩=some (.int .i64 ((p^m:Nat):Int))
 c4:∃v,w.cell? ⟨b,4,none⟩=some v/\Ak w v (il (p^m-1) (Jl p m ml x))
 c5:∃v f,w.cell? ⟨b,5,none⟩=some v/\Ak w v (il (p^m) f)/\∀k,k<p^m-1->f (Bw p m (lw ml) x k)=k
theorem AR.ex{w w':World}{b p m:Nat}{ml:List Int}{x:Nat}(h:AR w b p m ml x)(hx:Ex w w'):AR w' b p m ml x:=by
 obtain⟨a1,a2,a3,c0,c1,⟨v2,c2,s2⟩,c3,⟨v4,c4,s4⟩,⟨v5,f,c5,s5,hf⟩⟩:=h;exact⟨a1,a2,a3,hx.cell c0,hx.cell c1,⟨v2,hx.cell c2,s2.ex hx⟩,hx.cell c3,⟨v4,hx.cell c4,s4.ex hx⟩,⟨v5,f,hx.cell c5,s5.ex hx,hf⟩⟩
def F9(p m:Int)(ml:List Int):Prop:=∃pn mn:Nat,p=pn/\m=mn/\Iz pn mn ml/\He pn=true/\Kd pn mn (lw ml)
structure WC(w3 wz:World)(b g q:Nat)(e:TypeId)(c0 c1 c2 c3 c4 c5:Value)(ml:List Int):Prop where
 f0:wz.cell? ⟨b,0,none⟩=some c0
 f1:wz.cell? ⟨b,1,none⟩=some c1
 f2:wz.cell? ⟨b,2,none⟩=some c2
 f3:wz.cell? ⟨b,3,none⟩=some c3
 f4:wz.cell? ⟨b,4,none⟩=some c4
 f5:wz.cell? ⟨b,5,none⟩=some c5
 isl:Ak wz c2 ml
 own:AG wz w3.heap.size e g q (iv fun _=>0)
 ex:Ex w3 wz
 lt:g<b
 off:∀B,c2.ownBlock=some B->B≠g
theorem Sl.other{w:World}{v:Value}{n size:Nat}{xs:List Value}(h:Sl w v n size xs){a:Addr}(ha:∀B,v.ownBlock=some B->B≠a.block)(u:Value):Sl (w.setCell a u) v n size xs:=by
 obtain⟨h1,c,cap,rfl,h3,h4,h5⟩:=h;refine⟨h1,c,cap,rfl,h3,h4,fun hn=>?_⟩;obtain⟨b,o,rfl,h6⟩:=h5 hn;refine⟨b,o,rfl,fun j x hx=>?_⟩;rw[World.cell?_setCell_other _ _ _ _ (by
   intro e;have:a.block=b:=cj;exact ha b rfl this.symm)]
 exact h6 j x hx
theorem Pv{w3 W:World}{g q:Nat}{e t:TypeId}{c0 c1 c2 c3 c4 c5:Value}{ml:List Int}(h1:Ak W c2 ml)(h2:AG W w3.heap.size e g q (iv fun _=>0))(h3:Ex w3 W)(h4:∀B,c2.ownBlock=some B->B≠g):
  WC w3 (W.alloc (.cells #[c0,c1,c2,c3,c4,c5] t)) W.heap.size g q e c0 c1 c2 c3 c4 c5 ml:=
 ⟨ag,ag,ag,ag,ag,ag,h1.ex ((Ex.refl _).alloc _),h2.alloc _,h3.alloc _,h2.lt.2,h4⟩
theorem Nx{w w':World}{b b0:Nat}{e:TypeId}{g n:Nat}{c:Nat->Value}(h:AG w b e g n c)(hg:w.grownBy w' (Value.slice (some ⟨b0,0,none⟩) 0 0).ownBlock)(aA:g≠b0):AG w' b e g n c:=
 World.ownsRow.kept h hg (.inr (by simpa[Value.ownBlock]using aA))
theorem IN{w:World}{b:Nat}{e:TypeId}{v:Value}{ml:List Int}(h:w.ownsRow b e 1 v (0+ml.length) ([]++Am ml)):Ak w v ml:=by
 rw[Nat.zero_add,List.nil_append]at h;exact Sl.own h
def Yq(p m:Int)(ml:List Int)(w':World)(r:Ending):Prop:=
 (∃(pn mn x b:Nat),p=pn/\m=mn/\r= .returned (.tuple #[.pointer (some ⟨b,0,none⟩),.int .i64 0])/\AR w' b pn mn ml x/\1<=x/\x<pn^mn)∨
 (¬F9 p m ml/\r= .returned (.tuple #[.pointer none,.int .i64 1]))
theorem dq{P:Prop}(h:P:=by rw[<-aL];simp):P:=h
theorem dr{P:Prop}(h:P:=by rw[Nat.zero_add];exact h):P:=h
theorem E4(p m:Int)(ml:List Int)(mv:Value)(w:World)(bA:Ak w mv ml):
  Calls Tryz.prog 52 #[.agg #[.int .i64 p,.int .i64 m,mv]] w fun r w'=>Yq p m ml w' r/\Ex w w':=by
 obtain⟨xb,aL⟩:=nA w.heap.size;have d0:(w.alloc (.cells #[.int .i64 p,.int .i64 m,mv] 24)).cell? ⟨xb,0,none⟩=some (.int .i64 p):=dq;have d1:(w.alloc (.cells #[.int .i64 p,.int .i64 m,mv] 24)).cell? ⟨xb,1,none⟩=some (.int .i64 m):=dq;have d2:(w.alloc (.cells #[.int .i64 p,.int .i64 m,mv] 24)).cell? ⟨xb,2,none⟩=some mv:=dq;have e0:Ex w (w.alloc (.cells #[.int .i64 p,.int .i64 m,mv] 24)):=(Ex.refl _).alloc _;have aR:=Aa bA;have aS:=Aa (fun w' (h:Ak w' mv ml)=>KL p m ml mv w' h);have aG:=Hg p m;have D0:=Aa d0;have D1:=Aa d1;have D2:=Aa d2;clear d0 d1 d2 bA;by_cases hs:Ja p m ml=true
 .obtain⟨pn,mn,rfl,rfl,hf,aZ,ho⟩:=LF hs;rw[ho]at aG;rw[hs]at aS;have bF:=Aa aG;have HF:=Aa hf;have bO:=Aa aZ;have hq:=hf.q;have bE:=Aa (BK hf.p2 hf.m1);have bH:=Aa (fun w' (h:Ak w' mv ml)=>Gc pn mn ml mv w' hf h);have bG:=Aa (show ∀w' v,MX pn mn ml w' v↔((∃x,1<=x/\x<pn^mn/\CF pn mn (lw ml) x/\Ak w' v (il (pn^mn-1) (Jl pn mn ml x)))∨(¬Kd pn mn (lw ml)/\v= .slice none 0 0)) from fun _ _=>Iff.rfl);clear aG hf aZ ho hs;obtain⟨q,aN⟩:=nA (pn^mn);simp only[aN]at hq bF bE bH bG;have aK:=Aa aN;have hq1:1<q:=by rw[<-aN];exact BK HF.o.p2 HF.o.m1
  have hpq:pn<=q/\mn<=8:=⟨by rw[<-aN];have:=Nat.pow_le_pow_right (show 0<pn by have:=HF.o.p2;omega) HF.o.m1;rwa[Nat.pow_one]at this,HF.o.m8⟩;clear aN;go_enter Tryz.func52,Tryz.ntmps52
  have d0:=D0.o;have d1:=D1.o;have d2:=D2.o;go_wp2_with fail
  clear aL D0 D1 D2;generalize w.alloc (.cells #[.int .i64 pn,.int .i64 mn,mv] 24)=w1 at *;refine(aS.o _ (aR.o.ex e0)).mono ?_;rintro e w2⟨rfl,aI⟩;have r0:=aI.cell d0;have r1:=aI.cell d1;have r2:=aI.cell d2;have e2:=e0.trans aI;clear d0 d1 d2 e0 aI;go_wp2_with fail
  refine(bF.o _).mono ?_;rintro e w3⟨rfl,rfl⟩;go_wp2_with fail
  refine(bH.o _ (aR.o.ex e2)).mono ?_;rintro e w3⟨gv,rfl,aU,aM⟩;have s0:=aM.cell r0;have s1:=aM.cell r1;have s2:=aM.cell r2;have e3:=e2.trans aM;clear r0 r1 r2 e2 aM;rcases (bG.o _ _).1 aU with⟨x,x1,x2,hgx,hgv⟩|⟨hno,rfl⟩
  .obtain⟨ga,gc,rfl,g1,g2,g3⟩:=hgv.open;obtain⟨gb,aF,rfl,g4⟩:=g3 (by rw[Aj];have:=bE.o;omega);rw[Aj]at *;have hE:=fun w=>AF (P:=Tryz.prog) w 22 3 (some ⟨gb,aF,none⟩) (q-1) gc Tryz.underlying22;have hqi:1<=(q:Int):=by omega
   go_wp2_with fail
   have aT:=Aa (aR.o.ex e3);have hln:ml.length<=8:=by
    have h1:=HF.o.len;have h2:=HF.o.m8;split at h1 <;> omega
   have k0:0<q:=ac
   go_region_held3 (fun w'=>w'.cell? ⟨xb,0,none⟩=some (.int .i64 pn)/\w'.cell? ⟨xb,1,none⟩=some (.int .i64 mn)/\w'.cell? ⟨xb,2,none⟩=some mv/\Ex w w')
    (first
          | exact⟨s0,s1,s2,e3.drew⟩
          | exact⟨aB.cell s0,aB.cell s1,aB.cell s2,e3.trans aB⟩
          | exact⟨aB.cell s0,aB.cell s1,aB.cell s2,e3.drew.trans aB⟩
          | exact⟨(aH.trans aB).cell s0,(aH.trans aB).cell s1,(aH.trans aB).cell s2,e3.drew.trans (aH.trans aB)⟩
          | exact⟨(((Ex.refl w3).alloc (.cells #[] 3)).drew).cell s0,(((Ex.refl w3).alloc (.cells #[] 3)).drew).cell s1,(((Ex.refl w3).alloc (.cells #[] 3)).drew).cell s2,e3.trans (((Ex.refl w3).alloc (.cells #[] 3)).drew)⟩
          | (obtain⟨k0,k1,k2,k3⟩:=‹_/\_/\_/\Ex w _›;exact⟨aB.cell k0,aB.cell k1,aB.cell k2,k3.trans aB⟩)
          | (obtain⟨k0,k1,k2,k3⟩:=‹_/\_/\_/\Ex w _›;exact⟨((Ex.refl _).alloc _).cell k0,((Ex.refl _).alloc _).cell k1,((Ex.refl _).alloc _).cell k2,k3.trans ((Ex.refl _).alloc _)⟩))
    ((first
          | (refine BI bj _ _ _ bj _ 3 (.int .i64 0) 1 8 Tryz.underlying22 Aw rfl ae _ 0 [] bj (Ai (Bp _ _) (by first|exact Ex.refl _|exact(Ex.refl _).drew|exact aB|exact Ex.trans (Ex.refl _).drew aB)) _ ml.length (Am ml) bj (aR.o.ex (by first|exact(e3.alloc _).drew|exact(e3.drew.alloc _)|assumption|exact(‹_/\_/\_/\Ex w _›).2.2.2)) (by intro u hu;obtain⟨z,_,rfl⟩:=List.mem_map.1 hu;rfl) ai ac (by first|(simp;done)|omega|exact Nat.le_trans ag aB.size) ?_;intro v8 w8 aC aP bK;obtain⟨va,aA,bI⟩:=Ac aC;subst bI;first|(have aB:=Ex.grown ((Ex.refl _).alloc _).drew (Bp _ _).drew (Nat.le_refl _) aP)|(have aB:=Ex.grown (((Ex.refl _).alloc _).drew.trans aB) (Ai (Bp _ _) ((Ex.refl _).drew.trans aB)) (Nat.le_refl _) aP)|(have aB:=Ex.grown ((Ex.refl _).alloc _) (Bp _ _) (Nat.le_refl _) aP))
          | (refine Ei 22 3 (.int .i64 0) 8 Tryz.underlying22 Aw rfl q ac ai ?_;intro w6 aD aB;have aH:=aB;go_simp)))
   all_goals
    first
        | (have FN:WC w3 (w6.alloc (.cells #[.int .i64 pn,.int .i64 mn,.slice va ml.length aA,.int .i64 q,.slice (some ⟨gb,aF,none⟩) (q-1) gc,.slice (some ⟨w8.heap.size,0,none⟩) q q] 164)) w6.heap.size w8.heap.size q 3 (.int .i64 pn) (.int .i64 mn) (.slice va ml.length aA) (.int .i64 q) (.slice (some ⟨gb,aF,none⟩) (q-1) gc) (.slice (some ⟨w8.heap.size,0,none⟩) q q) ml:=Pv ((by have:=IN aC;rwa[Nat.zero_add]at this:Ak w8 (.slice va ml.length aA) ml).ex aH) (aD.mono (‹Ex w3 w8›).size) ((‹Ex w3 w8›).trans aH) (fun B h=>Nat.ne_of_lt (aC.lt B dr).2)
           generalize w6.alloc (.cells #[.int .i64 pn,.int .i64 mn,.slice va ml.length aA,.int .i64 q,.slice (some ⟨gb,aF,none⟩) (q-1) gc,.slice (some ⟨w8.heap.size,0,none⟩) q q] 164)=wz at FN ⊢;generalize w6.heap.size=b at FN ⊢;generalize w8.heap.size=g at FN ⊢)
        | (have FN:WC w3 (w8.alloc (.cells #[.int .i64 pn,.int .i64 mn,.slice va ml.length aA,.int .i64 q,.slice (some ⟨gb,aF,none⟩) (q-1) gc,.slice (some ⟨w3.heap.size,0,none⟩) q q] 164)) w8.heap.size w3.heap.size q 3 (.int .i64 pn) (.int .i64 mn) (.slice va ml.length aA) (.int .i64 q) (.slice (some ⟨gb,aF,none⟩) (q-1) gc) (.slice (some ⟨w3.heap.size,0,none⟩) q q) ml:=Pv (by have:=IN aC;rwa[Nat.zero_add]at this:Ak w8 (.slice va ml.length aA) ml) (Nx (AG.alloc (show AG w6 w3.heap.size 3 w3.heap.size q (iv fun _=>0) from aD) _) aP (Nat.ne_of_lt aD.lt.2)) ((Ex.refl w3).drew.trans (aH.trans aB)) (fun B h=>Nat.ne_of_gt (Nat.lt_of_lt_of_le aD.lt.2 (aC.lt B dr).1))
           generalize w8.alloc (.cells #[.int .i64 pn,.int .i64 mn,.slice va ml.length aA,.int .i64 q,.slice (some ⟨gb,aF,none⟩) (q-1) gc,.slice (some ⟨w3.heap.size,0,none⟩) q q] 164)=wz at FN ⊢;generalize w8.heap.size=b at FN ⊢;generalize w3.heap.size=g at FN ⊢)
        | (have FN:WC w3 (w8.alloc (.cells #[.int .i64 pn,.int .i64 mn,.slice va ml.length aA,.int .i64 q,.slice (some ⟨gb,aF,none⟩) (q-1) gc,.slice (some ⟨(w3.heap.size+1),0,none⟩) q q] 164)) w8.heap.size (w3.heap.size+1) q 3 (.int .i64 pn) (.int .i64 mn) (.slice va ml.length aA) (.int .i64 q) (.slice (some ⟨gb,aF,none⟩) (q-1) gc) (.slice (some ⟨(w3.heap.size+1),0,none⟩) q q) ml:=Pv (by have:=IN aC;rwa[Nat.zero_add]at this:Ak w8 (.slice va ml.length aA) ml) (Nx (show AG w6 w3.heap.size 3 (w3.heap.size+1) q (fun _=> .int .i64 0) by have:=aD.mono (b':=w3.heap.size) ag;simpa using this) aP ac) aB (fun B h=>by
            have hs6:w3.heap.size+1<w6.heap.size:=by have:=aD.lt.2;simpa using this
            have h':(Value.slice va (0+ml.length) aA).ownBlock=some B:=dr;rcases bK with e|e
            .rw[e]at h';injection h' with h';have h':w3.heap.size=B:=h';omega
            .rw[e]at h';injection h' with h';omega)
           generalize w8.alloc (.cells #[.int .i64 pn,.int .i64 mn,.slice va ml.length aA,.int .i64 q,.slice (some ⟨gb,aF,none⟩) (q-1) gc,.slice (some ⟨(w3.heap.size+1),0,none⟩) q q] 164)=wz at FN ⊢;generalize w8.heap.size=b at FN ⊢;generalize (w3.heap.size+1)=g at FN ⊢)
   all_goals
    have FF:=Aa FN;obtain⟨f0,f1,f2,f3,f4,f5,fi,fo,fe,fl,aQ⟩:=FN;have aV:=Aa aQ;have bU:=Aa fi;have G4:=Aa g4;have bT:=Aa hgv;have bP:=Aa (fun k=>(by rw[<-aK.o];exact CZ HF.o.p2 HF.o.m1 x k:Bw pn mn (lw ml) x k<q));have bR:=Aa (show ∀i j,j<q-1->i<j->Bw pn mn (lw ml) x i≠Bw pn mn (lw ml) x j from fun i j hj bJ=>hgx.inj HF.o.p2 HF.o.m1 (by rw[aK.o];exact hj) bJ);have bS:=Aa hgx;have bB:w3.heap.size<=g:=fo.lt.1;have HWG:=Aa bB;have bV:=Aa e3;clear aU hgx hgv g4 fi e3 bB s0 s1 s2 aT aQ;go_wp2_with fail
    go_loopw [7,8,39] (fun _ _ j' wr=>∃(j:Nat) (f:Nat->Int),j<=q-1/\j'= .int .i64 j/\Hia (AG wr w3.heap.size 3 g q (iv f))/\Hia (∀i,i<j->f (Bw pn mn (lw ml) x i)=i)/\Hia (∀k u,wz.cell? ⟨b,k,none⟩=some u->wr.cell? ⟨b,k,none⟩=some u)/\Hia (Ak wr (.slice va ml.length aA) ml)/\Ex w3 wr) (fun _ _ j' _=>q-(intOf j').toNat)
    case atStart=>exact⟨0,fun _=>0,ac,rfl,Aa fo,Aa (fun i h=>ac),Aa (fun k u h=>h),bU,fe⟩
    case round=>
     clear fo fe;obtain⟨j,f,hj,rfl,aE,bC,aJ,aO,hx⟩:=hrel;have b5:=aJ.o 5 _ f5;by_cases hlt:j<q-1
     .have hc:=hx.cell (G4.o j _ (AH hlt _));have aX:=bP.o j;have HY:=Aa (show Jl pn mn ml x j=((Bw pn mn (lw ml) x j:Nat):Int) from rfl);rw[HY.o]at hc;obtain⟨y,hy⟩:=nA (Bw pn mn (lw ml) x j);have bD:=Aa hy;rw[hy]at hc aX;have hcy:=aE.o.cell aX;have hfy:=aE.o.frz y;have HS:=Aa (aE.o.set y (.int .i64 j));have bN:=Aa (aE.o.exSet (Nat.le_refl _) hx y (.int .i64 j));have bW:=Aa (show ∀k u,wz.cell? ⟨b,k,none⟩=some u->(wr.setCell ⟨g,y,none⟩ (.int .i64 j)).cell? ⟨b,k,none⟩=some u from fun k u h=>by
       rw[World.cell?_setCell_other _ _ _ _ (by intro e;injection e;omega)];exact aJ.o k u h)
      have bQ:=Aa (show Ak (wr.setCell ⟨g,y,none⟩ (.int .i64 j)) (.slice va ml.length aA) ml from Sl.other aO.o (fun B h=>aV.o B h) _);clear hy;go_wp2_with fail
      go_roundw
      case rel=>
       refine⟨j+1,Ax f y j,ac,by go_num,Aa (by have:=HS.o;rwa[Cy]at this),Aa (fun i hi=>?_),bW,bQ,bN.o⟩;by_cases e:i=j
       .subst e;rw[bD.o,Ab]
       .rw[Ae _ _ (fun h=>bR.o i j hlt ac (h.trans bD.o.symm))];exact bC.o i ac
      case measure=>simp[intOf];omega
     .have hjq:j=q-1:=by omega
      have HR:Hia (AR wr b pn mn ml x):=Aa ⟨HF.o,bO.o,bS.o,aJ.o 0 _ f0,aJ.o 1 _ f1,⟨_,aJ.o 2 _ f2,aO.o⟩,by rw[aK.o];exact aJ.o 3 _ f3,
       ⟨_,aJ.o 4 _ f4,by rw[aK.o];exact bT.o.ex hx⟩,⟨_,f,b5,by rw[aK.o];exact aE.o.isl,fun k hk=>bC.o k (by rw[aK.o]at hk;omega)⟩⟩
      clear hlt b5;go_wp2_with fail
      go_ret2;exact⟨.inl ⟨pn,mn,x,b,rfl,rfl,rfl,HR.o,x1,by rw[aK.o];exact x2⟩,bV.o.trans hx⟩
  .have aW:=Aa (show ¬F9 pn mn ml from fun ⟨a,b,e1,e2,_,_,h⟩=>by
    have bM:pn=a:=ac;have bL:mn=b:=ac;subst bM;subst bL;exact hno h)
   clear aU hno;have hE:=fun w=>AF (P:=Tryz.prog) w 22 3 none 0 0 Tryz.underlying22;go_wp2_with fail
   go_ret2;exact⟨.inr ⟨aW.o,rfl⟩,e3⟩
 .have aY:Ja p m ml=false:=by simpa using hs
  have aW:=Aa (show ¬F9 p m ml from fun ⟨a,b,e1,e2,h1,h2,_⟩=>by
   rw[e1,e2]at hs;exact hs (Ra h1 h2).1)
  rw[aY]at aS;clear hs aY aG;go_enter Tryz.func52,Tryz.ntmps52
  have d0:=D0.o;have d1:=D1.o;have d2:=D2.o;go_wp2_with fail
  clear aL D0 D1 D2;generalize w.alloc (.cells #[.int .i64 p,.int .i64 m,mv] 24)=w1 at *;refine(aS.o _ (aR.o.ex e0)).mono ?_;rintro e w2⟨rfl,aI⟩;go_wp2_with fail
  go_ret2;exact⟨.inr ⟨aW.o,rfl⟩,e0.trans aI⟩
end
end Go.Proofs.YtehieobniamagaaGreat
