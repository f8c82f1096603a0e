/- A region that draws its order, by one invariant: each operation is shown once, whatever has come up before it. -/
import Derived.Test.YtehieobniamagaaGreatZs02
namespace Go.Proofs.YtehieobniamagaaGreat
open Go.RowKit
set_option linter.all false
set_option maxRecDepth 100000
set_option maxHeartbeats 4000000
def NU(n:Nat):List Oper->Nat->List Nat->Bool
 | [],_,_=>true
 | o :: l,k,seen=>o.guard.isNone&&(o.after.all fun e=>decide (e.on<k))&&(match o.dst with
  | none=>NU n l (k+1) seen
  | some d=>decide (d<n) && !seen.contains d&&NU n l (k+1) (d :: seen))
structure TX(ops:Array Oper)(n:Nat):Prop where
 free:∀(i:Nat) (o:Oper),ops[i]?=some o->o.guard=none
 wait:∀(i:Nat) (o:Oper),ops[i]?=some o->∀e∈o.after,(e:Edge).on<i
 lt:∀(i:Nat) (o:Oper) (d:Nat),ops[i]?=some o->o.dst=some d->d<n
 inj:∀(i j:Nat) (oi oj:Oper) (d:Nat),ops[i]?=some oi->ops[j]?=some oj->oi.dst=some d->oj.dst=some d->i=j
theorem zaB{P:Prop}(h:P:=by
 rw[hd]at h3;simp only[Bool.and_eq_true]at h3;refine⟨by simpa using h3.1.1,by simpa using h3.1.2,fun j oj hj=>by omega⟩):P:=h
theorem zbg{P:Prop}(h:P:=by
 obtain⟨c1,c2,c3⟩:=c d hd;refine⟨c1,fun h=>c2 (List.mem_cons_of_mem _ h),fun j oj hj ho=>?_⟩
 cases j with
 | zero=>
  simp at ho;subst ho;rw[hdo];intro e;injection e with e;exact c2 (by rw[e];exact List.mem_cons_self ..)
 | succ j=>simp at ho;exact c3 j oj (by omega) ho):P:=h
theorem zbz{P:Prop}(h:P:=by
 obtain⟨c1,c2,c3⟩:=c d hd;refine⟨c1,c2,fun j oj hj ho=>?_⟩
 cases j with
 | zero=>simp at ho;subst ho;rw[hdo];simp
 | succ j=>simp at ho;exact c3 j oj (by omega) ho):P:=h
theorem I9(n:Nat):∀(l:List Oper) (k:Nat) (aA:List Nat),NU n l k aA=true->∀(i:Nat) (o:Oper),l[i]?=some o->
  o.guard=none/\(∀e∈o.after,e.on<k+i)/\∀d,o.dst=some d->d<n/\d ∉ aA/\∀j oj,j<i->l[j]?=some oj->oj.dst≠some d
 | [],_,_,_,i,o,h=>by simp at h
 | o :: l,k,aA,h,i,o',hi=>by
  unfold NU at h;rw[Bool.and_eq_true,Bool.and_eq_true]at h;obtain⟨⟨h1,h2⟩,h3⟩:=h
  cases i with
  | zero=>
   simp at hi;subst hi;refine⟨by simpa using h1,fun e he=>?_,fun d hd=>?_⟩
   .rw[Array.all_eq_true_iff_forall_mem]at h2;have:=h2 e he;simpa using this
   .exact zaB
  | succ i=>
   simp at hi
   cases hdo:o.dst with
   | none=>
    rw[hdo]at h3;obtain⟨a,b,c⟩:=I9 n l (k+1) aA h3 i o' hi;refine⟨a,fun e he=>by have:=b e he;omega,fun d hd=>?_⟩;exact zbz
   | some d0=>
    rw[hdo]at h3;simp only[Bool.and_eq_true]at h3;obtain⟨a,b,c⟩:=I9 n l (k+1) (d0 :: aA) h3.2 i o' hi;refine⟨a,fun e he=>by have:=b e he;omega,fun d hd=>?_⟩;exact zbg
theorem rgn_ok{l:List Oper}{n:Nat}(h:NU n l 0 []=true):TX l.toArray n:=by
 have aA:=I9 n l 0 [] h;have hg:∀(i:Nat) o,l.toArray[i]?=some o->l[i]?=some o:=fun i o h=>ay;refine⟨fun i o ho=>(aA i o (hg i o ho)).1,fun i o ho e he=>by have:=(aA i o (hg i o ho)).2.1 e he;omega,fun i o d ho hd=>((aA i o (hg i o ho)).2.2 d hd).1,fun i j oi oj d hi hj h1 h2=>?_⟩;rcases Nat.lt_trichotomy i j with e|e|e
 .exact absurd h1 (((aA j oj (hg j oj hj)).2.2 d h2).2.2 i oi e (hg i oi hi))
 .exact e
 .exact absurd h2 (((aA i oi (hg i oi hi)).2.2 d h1).2.2 j oj e (hg j oj hj))
structure F7(ops:Array Oper)(a0:Act)(L:Nat->Bool)(vals:Nat->Value)(a:Act):Prop where
 sz:a.tmps.size=a0.tmps.size
 df:a.defers=a0.defers
 got:∀(i:Nat) (o:Oper) (d:Nat),L i=true->ops[i]?=some o->o.dst=some d->a.tmps[d]?=some (vals i)
 old:∀(s:Nat),(∀(i:Nat) (o:Oper),L i=true->ops[i]?=some o->o.dst≠some s)->a.tmps[s]?=a0.tmps[s]?
section
variable {ops:Array Oper} {a0 a a':Act} {L L':Nat->Bool} {vals:Nat->Value}
theorem F7.congr(h:F7 ops a0 L vals a)(hL:∀i,i<ops.size->L i=L' i):F7 ops a0 L' vals a:=by
 have hs:∀i o,ops[i]?=some o->i<ops.size:=fun i o h=>(Array.getElem?_eq_some_iff.1 h).1;exact⟨h.sz,h.df,fun i o d hi ho hd=>h.got i o d (by rw[hL i (hs i o ho)];exact hi) ho hd,fun s hn=>h.old s fun i o hi ho=>hn i o (by rw[<-hL i (hs i o ho)];exact hi) ho⟩
theorem F7.uniq(h:F7 ops a0 L vals a)(k:F7 ops a0 L vals a'):a=a':=by
 have h1:a.tmps=a'.tmps:=by
  apply Array.ext_getElem?;intro s;by_cases hs:∃i o,L i=true/\ops[i]?=some o/\o.dst=some s
  .obtain⟨i,o,h1,h2,h3⟩:=hs;rw[h.got i o s h1 h2 h3,k.got i o s h1 h2 h3]
  .rw[h.old s fun i o h1 h2 h3=>hs ⟨i,o,h1,h2,h3⟩,k.old s fun i o h1 h2 h3=>hs ⟨i,o,h1,h2,h3⟩]
 have h2:a.defers=a'.defers:=h.df.trans k.df.symm;cases a;cases a'
 simp only at h1 h2;subst h1 h2;rfl
theorem zai{P:Prop}(h:P:=by
 show(a.tmps.setIfInBounds d0 v)[d]?=_
 by_cases e:j=i
 .subst e;rw[ho]at aA;injection aA with aA;subst aA;rw[hd]at aB;injection aB with aB;subst aB;rw[Array.getElem?_setIfInBounds_self_of_lt aD,Ab]
 .have aC:d0≠d:=fun e2=>e (H.inj j i oj o d aA ho aB (by rw[hd,e2]));rw[Array.getElem?_setIfInBounds_ne aC,Ad _ _ e];rw[Ad _ _ e]at hj;exact h.got j oj d hj aA aB):P:=h
theorem zaj{P:Prop}(h:P:=by
 show(a.tmps.setIfInBounds d0 v)[s]?=_
 have aC:d0≠s:=fun e2=>hn i o (Ab _ _ _) ho (by rw[hd,e2]);rw[Array.getElem?_setIfInBounds_ne aC];exact h.old s fun j oj hj aA=>by
  by_cases e:j=i
  .subst e;rw[ho]at aA;injection aA with aA;subst aA;rw[hd];intro e2;injection e2 with e2;exact aC e2
  .exact hn j oj (by rw[Ad _ _ e];exact hj) aA):P:=h
theorem zax{P:Prop}(h:P:=by
 by_cases e:j=i
 .subst e;rw[ho]at aA;injection aA with aA;subst aA;rw[hd]at aB;cases aB
 .rw[Ad _ _ e]at hj ⊢;exact h.got j oj d hj aA aB):P:=h
theorem zaC{P:Prop}(h:P:=by
 by_cases e:j=i
 .subst e;rw[ho]at aA;injection aA with aA;subst aA;rw[hd];simp
 .exact hn j oj (by rw[Ad _ _ e];exact hj) aA):P:=h
theorem zbd{P:Prop}(h:P:=by
 cases hd:o.dst with
 | none=>
  refine⟨h.sz,h.df,fun j oj d hj aA aB=>?_,fun s hn=>h.old s fun j oj hj aA=>?_⟩
  .exact zax
  .exact zaC
 | some d0=>
  have aD:d0<a.tmps.size:=by rw[h.sz];exact H.lt i o d0 ho hd
  refine⟨by show(a.tmps.setIfInBounds d0 v).size=_;rw[Array.size_setIfInBounds];exact h.sz,h.df,fun j oj d hj aA aB=>?_,fun s hn=>?_⟩
  .exact zai
  .exact zaj):P:=h
theorem F7.step(H:TX ops a0.tmps.size)(h:F7 ops a0 L vals a){i:Nat}{o:Oper}(ho:ops[i]?=some o)(v:Value):F7 ops a0 (Az L i true) (Az vals i v) (a.put o.dst v):=by
 exact zbd
def Ci(ops:List Oper)(vals:Nat->Value):Nat->Act->Act:=match ops with
 | []=>fun _ a=>a
 | o :: l=>fun k a=>Ci l vals (k+1) (a.put o.dst (vals k))
end
theorem bi{P:Prop}(h:P:=by cases h):P:=h
theorem F7.init(ops:Array Oper)(a0:Act)(vals:Nat->Value):F7 ops a0 (fun _=>false) vals a0:=⟨rfl,rfl,fun i o d h=>bi,fun s _=>rfl⟩
theorem zcu{P:Prop}(h:P:=by
 funext i;by_cases e:i=aA.length
 .subst e;rw[Ab];simp
 .rw[Ad _ _ e];simp;omega):P:=h
theorem F7.putK{l0:List Oper}{a0:Act}(H:TX l0.toArray a0.tmps.size)(vals:Nat->Value):∀(l aA:List Oper) (a:Act),aA++l=l0->F7 l0.toArray a0 (fun i=>decide (i<aA.length)) vals a->F7 l0.toArray a0 (fun i=>decide (i<l0.length)) vals (Ci l vals aA.length a)
 | [],aA,a,he,h=>by
  rw[List.append_nil]at he;subst he;exact h
 | o :: l,aA,a,he,h=>by
  have ho:l0.toArray[aA.length]?=some o:=by rw[<-he];simp
  have h1:=h.step H ho (vals aA.length);have e1:Az (fun i=>decide (i<aA.length)) aA.length true=fun i=>decide (i<(aA ++ [o]).length):=by
   exact zcu
  have e2:Az vals aA.length (vals aA.length)=vals:=by
   funext i;by_cases e:i=aA.length
   .subst e;rw[Ab]
   .rw[Ad _ _ e]
  rw[e1,e2]at h1;have h2:=F7.putK H vals l (aA ++ [o]) (a.put o.dst (vals aA.length)) (by rw[<-he];simp) h1;rw[List.length_append]at h2;exact h2
theorem TM(p:Nat->Bool)(m:Nat): [m].countP p=if p m=true then 1 else 0:=by
 rw[List.countP_cons,List.countP_nil,Nat.zero_add]
theorem OR(L:Nat->Bool)(i:Nat)(hi:L i=false):∀m,(List.range m).countP (fun j=> !(Az L i true) j)+(if i<m then 1 else 0)=(List.range m).countP (fun j=> !L j)
 | 0=>by simp
 | m+1=>by
  have ih:=OR L i hi m;rw[List.range_succ,List.countP_append,List.countP_append,TM,TM];by_cases e:m=i
  .subst e;rw[if_neg ac]at ih;rw[Ab,hi,if_neg ae,if_pos ac,if_pos ae];omega
  .rw[Ad _ _ e];by_cases e2:i<m
   .rw[if_pos e2]at ih;rw[if_pos (show i<m+1 by omega)];omega
   .rw[if_neg e2]at ih;rw[if_neg (show ¬i<m+1 by omega)];omega
def AJ(F:Nat->Oper->Prop):List Oper->Nat->Prop
 | [],_=>True
 | o :: l,k=>F k o/\AJ F l (k+1)
theorem AJ.get{F:Nat->Oper->Prop}:∀ {l:List Oper} {k i:Nat} {o:Oper},AJ F l k->l[i]?=some o->F (k+i) o
 | [],_,_,_,_,hi=>by cases hi
 | o :: l,k,0,o',h,hi=>by
  have:o=o':=Option.some.inj hi;subst this;exact h.1
 | o :: l,k,i+1,o',h,hi=>by
  have h1:F (k+1+i) o':=AJ.get (l:=l) h.2 hi;rw[show k+(i+1)=k+1+i from ac];exact h1
section
variable {P:Program} {Q:Exit->Act->World->Prop} {J:(Nat->Bool)->(Nat->Value)->World->Prop} {a0:Act}
def Va(P:Program)(Q:Exit->Act->World->Prop)(J:(Nat->Bool)->(Nat->Value)->World->Prop)(ops:Array Oper)(a0:Act)(i:Nat)(o:Oper):Prop:=
 ∀L vals a w,F7 ops a0 L vals a->J L vals w->L i=false->(∀e∈o.after,Region.binds .any e=true->L e.on=true)->(∀(k:Nat) (o':Oper),L k=true->ops[k]?=some o'->∀e∈o'.after,Region.binds .any e=true->L e.on=true)->
  ∀K:Act->World->Prop,(∀v w',J (Az L i true) (Az vals i v) w'->K (a.put o.dst v) w')->o.wp P a w K Q
theorem zaD{P:Prop}(h:P:=by
 rw[Ad _ _ e];rw[Array.getD_eq_getD_getElem?,Array.getD_eq_getD_getElem?,Array.getElem?_setIfInBounds_ne (fun h=>e h.symm)]):P:=h
theorem zbE{P:Prop}(h:P:=by
 have h0:(List.range l.length).countP (fun i=> !listed.getD i false)=0:=by omega
 have:=List.countP_eq_zero.1 h0 i (List.mem_range.2 hi);simpa using this):P:=h
theorem bm{P:Prop}(h:P:=by simpa using (Array.getElem?_eq_some_iff.1 h2).1):P:=h
theorem du{P:Prop}(h:P:=by simpa using h2):P:=h
theorem YO{l:List Oper}(H:TX l.toArray a0.tmps.size)(hs:AJ (Va P Q J l.toArray a0) l 0)
  (he:∀L vals w,(∀i,i<l.length->L i=true)->J L vals w->Q .normal (Ci l vals 0 a0) w):
  ∀fuel (listed:Array Bool) a w vals,listed.size=l.length->(List.range l.length).countP (fun i=> !listed.getD i false)<=fuel->(∀(k:Nat) (o':Oper),listed.getD k false=true->l.toArray[k]?=some o'->∀e∈o'.after,Region.binds .any e=true->listed.getD e.on false=true)->F7 l.toArray a0 (fun i=>listed.getD i false) vals a->J (fun i=>listed.getD i false) vals w->wpAny P .any l.toArray Q fuel listed a w:=by
 have aE:∀(listed:Array Bool) a w vals,listed.size=l.length->(∀i,i<l.length->listed.getD i false=true)->F7 l.toArray a0 (fun i=>listed.getD i false) vals a->J (fun i=>listed.getD i false) vals w->Q .normal a w:=fun listed a w vals aB aA hf hj=>by
  have h1:=he _ vals w aA hj;have h2:=F7.putK H vals l [] a0 rfl ((F7.init l.toArray a0 vals).congr fun i hi=>ag);have h3:=hf.uniq (h2.congr fun i hi=>by
   have aI:i<l.length:=by simpa using hi
   simp only[aI,decide_true];exact(aA i aI).symm)
  rw[h3];exact h1
 have aA:∀(listed:Array Bool),listed.size=l.length->Region.ready .any l.toArray listed= []->∀i,i<l.length->listed.getD i false=true:=fun listed aB hr i=>by
  induction i using Nat.strongRecOn with
  | ind i ih=>
   intro hi
   cases hb:listed.getD i false with
   | true=>rfl
   | false=>
    exfalso;have ho:l.toArray[i]?=some l[i]:=by simp[hi]
    have hm:i∈Region.ready .any l.toArray listed:=mem_ready.2 ⟨by
     have aC:i<listed.size:=ac;simp[Array.getD,aC]at hb ⊢;exact hb,l[i],ho,fun e aM _=>by
     have hw:=H.wait i _ ho e aM;exact ih e.on hw ac⟩
    rw[hr]at hm;cases hm
 intro fuel
 induction fuel with
 | zero=>
  intro listed a w vals aB hc aH hf hj;have ha:∀i,i<l.length->listed.getD i false=true:=fun i hi=>by
   exact zbE
  refine⟨?_,aE listed a w vals aB ha hf hj⟩
  cases hr:Region.ready .any l.toArray listed with
  | nil=>rfl
  | cons x t=>
   exfalso;have hm:x∈Region.ready .any l.toArray listed:=by rw[hr];exact List.mem_cons_self ..
   obtain⟨h1,o,h2,_⟩:=mem_ready.1 hm;have hx:x<l.length:=bm;have h3:=ha x hx;have aC:x<listed.size:=ac;simp[Array.getD,aC]at h1 h3;rw[h1]at h3;cases h3
 | succ fuel ih=>
  intro listed a w vals aB hc aH hf hj;refine⟨fun hr=>aE listed a w vals aB (aA listed aB hr) hf hj,fun i hi=>?_⟩;obtain⟨h1,o,h2,h3⟩:=mem_ready.1 hi;have aL:i<l.length:=bm;have aC:i<listed.size:=ac;have aJ:listed.getD i false=false:=by
   simp[Array.getD,aC]at h1 ⊢;exact h1
  have aP:l[i]?=some o:=du;have BC:Va P Q J l.toArray a0 (0+i) o:=hs.get aP;rw[Nat.zero_add]at BC;have aF:(fun j=>(listed.setIfInBounds i true).getD j false)=Az (fun j=>listed.getD j false) i true:=by
   funext j;by_cases e:j=i
   .subst e;rw[Ab];simp[Array.getD,aC]
   .exact zaD
  unfold wpOp;rw[h2];have hw:Region.wanted o (yielded l.toArray a.tmps)=true:=by simp[Region.wanted,H.free i o h2]
  simp only[hw,if_true];refine .inl (BC _ vals a w hf hj aJ (fun e he hb=>h3 e he hb) aH _ fun v w' aK=>?_);have aG:∀(k:Nat) (o':Oper),(listed.setIfInBounds i true).getD k false=true->l.toArray[k]?=some o'->∀e∈o'.after,Region.binds .any e=true->(listed.setIfInBounds i true).getD e.on false=true:=fun k o' hk aD e he hb=>by
   have e1:=congrFun aF k;have e2:=congrFun aF e.on;rw[e1]at hk;rw[e2];by_cases h0:e.on=i
   .rw[h0,Ab]
   .rw[Ad _ _ h0];by_cases h4:k=i
    .subst h4;rw[h2]at aD;injection aD with aD;subst aD;exact h3 e he hb
    .rw[Ad _ _ h4]at hk;exact aH k o' hk aD e he hb
  refine ih _ _ _ (Az vals i v) (by rw[Array.size_setIfInBounds];exact aB) ?_ aG (by rw[aF];exact hf.step H h2 v) (by rw[aF];exact aK);have aO:=OR (fun j=>listed.getD j false) i aJ l.length;rw[if_pos aL]at aO;have aN:(List.range l.length).countP (fun j=> !(listed.setIfInBounds i true).getD j false)=(List.range l.length).countP (fun j=> !(Az (fun j=>listed.getD j false) i true) j):=by
   congr 1
   funext j;rw[<-congrFun aF j]
  rw[aN];omega
theorem F7.in_{l:List Oper}{L:Nat->Bool}{vals:Nat->Value}{a:Act}(hf:F7 l.toArray a0 L vals a)(k t:Nat){o:Oper}(hL:L k=true)(ho:l[k]?=some o)(hd:o.dst=some t):a.tmps[t]?=some (vals k):=
 hf.got k o t hL (by simpa using ho) hd
theorem F7.out_{l:List Oper}{L:Nat->Bool}{vals:Nat->Value}{a:Act}(hf:F7 l.toArray a0 L vals a)(t:Nat)(hn:(l.all fun o=>o.dst !=some t)=true):a.tmps[t]?=a0.tmps[t]?:=
 hf.old t fun i o _ ho hd=>by
  have aA:l[i]?=some o:=by simpa using ho
  have:=List.all_eq_true.1 hn o (List.mem_of_getElem? aA);rw[hd]at this;simp at this
theorem zbA{P:Prop}(h:P:=by
 funext i;rw[Array.getD_eq_getD_getElem?];by_cases h:i<l.toArray.size
 .rw[Array.getElem?_replicate,if_pos h];rfl
 .rw[Array.getElem?_replicate,if_neg h];rfl):P:=h
theorem Da{id:Nat}{l:List Oper}{w:World}(J:(Nat->Bool)->(Nat->Value)->World->Prop)(hm:P.follows .mixedOrders=true)(hB:NU a0.tmps.size l 0 []=true)(h0:J (fun _=>false) (fun _=>undef) w.drew)
  (hs:AJ (Va P Q J l.toArray a0) l 0) (he:∀L vals w,(∀i,i<l.length->L i=true)->J L vals w->Q .normal (Ci l vals 0 a0) w):(Code.region id l.toArray true).wp P Q a0 w:=by
 refine wp_region_any hm ?_;have hL:(fun i=>(Array.replicate l.toArray.size false).getD i false)=fun _=>false:=by
  exact zbA
 refine YO (rgn_ok hB) hs he _ _ _ _ (fun _=>undef) ag (Nat.le_trans List.countP_le_length ag) (fun k o' hk=>by have:=congrFun hL k;rw[this]at hk;cases hk) ?_ ?_
 .rw[hL];exact F7.init _ _ _
 .rw[hL];exact h0
theorem Cz{a:Act}{t:Nat}{v:Value}(h:a.tmps[t]?=some v):a.eval (.tmp t)=v:=by
 show a.tmps.getD t undef=v
 rw[Array.getD_eq_getD_getElem?,h];rfl
theorem Bn{b:Bool}(h:¬b=true):b=false:=by cases b <;> simp_all
theorem Dr{w:World}{o:Oper}{a:Act}{K:Act->World->Prop}(s x:Operand)(t:TypeId)
  (ho:o.op= .call { callee:= .builtin .append,args:= #[s,x],argTypes:= #[t,t] })
  (base:Nat) (e:TypeId) (z:Value) (size aA:Nat) (ht:P.underlying t=some (.slice e)) (hi:(P.info? e).map (fun i=>(i.zero,i.size,i.bytes))=some (some z,size,aA))
  (aE:z.cells.size=size) (aF:0<size) (v:Value) (n:Nat) (xs:List Value) (hs:a.eval s=v) (aD:w.ownsRow base e size v n xs)
  (xv:Value) (m:Nat) (news:List Value) (hx:a.eval x=xv) (aG:Sl w xv m size news) (h1:∀u∈news,u.oneCell'=true)
  (aH:n+m<=maxLen) (aB:(n+m)*aA<=140737488355328) (aC:base<=w.heap.size)
  (h:∀v' w',w'.ownsRow base e size v' (n+m) (xs++news)->w.grownBy w' v.ownBlock->(v'.ownBlock=v.ownBlock∨v'.ownBlock=some w.heap.size)->K (a.put o.dst v') w'):
  Oper.wp P o a w K Q:=by
 obtain⟨v',w',hr,h2,h3,h4⟩:=Fe (P:=P) w base t o.type e z size aA ht hi aE aF v n xs aD xv m news aG h1 aH aB aC;exact zbx
theorem ED:∀(l:List Oper) (k:Nat) (V V':Nat->Value) (a:Act),(∀i o,l[i]?=some o->o.dst≠none->V (k+i)=V' (k+i))->Ci l V k a=Ci l V' k a
 | [],_,_,_,_,_=>rfl
 | o :: l,k,V,V',a,h=>by
  show Ci l V (k+1) (a.put o.dst (V k))=Ci l V' (k+1) (a.put o.dst (V' k))
  have e:a.put o.dst (V k)=a.put o.dst (V' k):=by
   cases hd:o.dst with
   | none=>rfl
   | some d=>rw[show V k=V' k from h 0 o rfl (by rw[hd];simp)]
  rw[e];exact ED l (k+1) V V' _ fun i o' hi hd=>by
   rw[show k+1+i=k+(i+1) from ac];exact h (i+1) o' hi hd
def OpQ(P:Program)(Q:Exit->Act->World->Prop)(l:List Oper)(a0:Act)(pv:Nat->Value)(wr:World)(F:World->World)(m i:Nat)(o:Oper):Prop:=
 ∀(L:Nat->Bool) (a:Act) (n:Nat),(∀k t o',L k=true->l[k]?=some o'->o'.dst=some t->a.tmps[t]?=some (pv k))->(∀t,(l.all fun o=>o.dst !=some t)=true->a.tmps[t]?=a0.tmps[t]?)->(∀e∈o.after,Region.binds .any e=true->L e.on=true)->
  ∀K:Act->World->Prop,(if i=m then K (a.put o.dst undef) (F (wr.drewN n)) else ∀n',K (a.put o.dst (pv i)) (wr.drewN n'))->o.wp P a (wr.drewN n) K Q
theorem zcz{P:Prop}(h:P:=by
 cases h:l[m]? with
 | none=>rw[h]at hl;cases hl
 | some om=>exact⟨om,rfl⟩):P:=h
theorem dy{P:Prop}(h:P:=by cases hd:om.dst with|none=>rfl|some d=>rw[hd]at aA;cases aA):P:=h
theorem NF{id:Nat}{l:List Oper}{w:World}(pv:Nat->Value)(F:World->World)(m:Nat)(hm:P.follows .mixedOrders=true)(hB:NU a0.tmps.size l 0 []=true)
  (hl:(match l[m]? with|some om=>l.length==m+1&&om.dst.isNone&&(List.range m).all fun k=>om.after.any fun e=>e.on==k&&Region.binds .any e|none=>false)=true)
  (hs:AJ (OpQ P Q l a0 pv w F m) l 0) (he:∀n,Q .normal (Ci l pv 0 a0) (F (w.drewN n))):(Code.region id l.toArray true).wp P Q a0 w:=by
 obtain⟨om,aF⟩:∃om,l[m]?=some om:=by
  exact zcz
 rw[aF]at hl;simp only[Bool.and_eq_true,beq_iff_eq]at hl;obtain⟨⟨hlen,aA⟩,aG⟩:=hl;have aM:om.dst=none:=dy;have aE:∀k,k<m->∃e∈om.after,(e:Edge).on=k/\Region.binds .any e=true:=fun k hk=>by
  have:=List.all_eq_true.1 aG k (List.mem_range.2 hk);rw[Array.any_eq_true']at this;obtain⟨e,he,h⟩:=this;rw[Bool.and_eq_true,beq_iff_eq]at h;exact⟨e,he,h.1,h.2⟩
 refine Da (fun L V w'=>(∀k,k≠m->L k=true->V k=pv k)/\(L m=false->∃n,w'=w.drewN n)/\(L m=true->∃n,w'=F (w.drewN n))) hm hB ⟨fun k _ h=>bi,fun _=>⟨1,rfl⟩,fun h=>bi⟩ ?_ ?_
 .have aI:∀(l':List Oper) (k0:Nat),(∀i o,l'[i]?=some o->l[k0+i]?=some o)->AJ (OpQ P Q l a0 pv w F m) l' k0->AJ (Va P Q (fun L V w'=>(∀k,k≠m->L k=true->V k=pv k)/\(L m=false->∃n,w'=w.drewN n)/\(L m=true->∃n,w'=F (w.drewN n))) l.toArray a0) l' k0:=fun l'=>by
   induction l' with
   | nil=>intro _ _ _;trivial
   | cons o l' ih=>
    intro k0 aD h;refine⟨?_,ih (k0+1) (fun i o' hi=>by rw[show k0+1+i=k0+(i+1) from ac];exact aD (i+1) o' hi) h.2⟩;intro L V a w' hf hj hi hd aO K hK;have aJ:l[k0]?=some o:=by have:=aD 0 o rfl;simpa using this
    have hk0:k0<l.length:=(List.getElem?_eq_some_iff.1 aJ).1;have aH:L m=false:=by
     by_cases e:k0=m
     .rw[<-e];exact hi
     .refine Bn fun hb=>?_;obtain⟨e2,h1,h2,h3⟩:=aE k0 ac;have:=aO m om hb (by simpa using aF) e2 h1 h3;rw[h2,hi]at this;cases this
    obtain⟨n,rfl⟩:=hj.2.1 aH;refine h.1 L a n (fun k t o' hk aK aN=>?_) (fun t ht=>hf.out_ t ht) hd K ?_
    .have aC:k≠m:=fun e=>by rw[e,aH]at hk;cases hk
     rw[<-hj.1 k aC hk];exact hf.in_ k t hk aK aN
    .by_cases e:k0=m
     .rw[if_pos e];refine hK undef _ ⟨fun k aC hk=>?_,fun h=>?_,fun _=>⟨n,rfl⟩⟩
      .rw[e]at hk ⊢;rw[Ad _ _ aC]at hk ⊢;exact hj.1 k aC hk
      .rw[e,Ab]at h;cases h
     .rw[if_neg e];intro n';refine hK (pv k0) _ ⟨fun k aC hk=>?_,fun _=>⟨n',rfl⟩,fun h=>?_⟩
      .by_cases e2:k=k0
       .rw[e2,Ab]
       .rw[Ad _ _ e2]at hk ⊢;exact hj.1 k aC hk
      .rw[Ad _ _ (fun e3=>e e3.symm),aH]at h;cases h
  exact aI l 0 (fun i o h=>by rw[Nat.zero_add];exact h) hs
 .intro L V w' aB hj;obtain⟨n,rfl⟩:=hj.2.2 (aB m ac);have hp:Ci l V 0 a0=Ci l pv 0 a0:=ED l 0 V pv a0 fun i o hi hd=>by
   rw[Nat.zero_add];have aL:i<l.length:=(List.getElem?_eq_some_iff.1 hi).1;refine hj.1 i (fun e=>hd ?_) (aB i aL);rw[e,aF]at hi;injection hi with hi;rw[<-hi];exact aM
  rw[hp];exact he n
end
theorem AH.pre{w:World}{base:Nat}{e:TypeId}{g n m:Nat}{f:Nat->Int}(h:AH w base e g n (iv f))(hm:m<=n):Al w (.slice (some (g,0)) m n) (il m f):=by
 have hn:=h.le;refine⟨by rw[Bc];omega,some ⟨g,0,none⟩,n,by rw[An],by rw[An];exact hm,hn,fun _=>⟨g,0,rfl,fun j u hu=>?_⟩⟩;rw[Cu]at hu;have hj:j<m:=by have:=(List.getElem?_eq_some_iff.1 hu).1;rwa[Bm]at this
 rw[Dk hj]at hu;injection hu with hu;rw[Nat.zero_add,<-hu];exact h.cell ac
section
variable {p m:Nat} {ml:List Int} {mv:Value}
def Mc(p m:Nat)(ml:List Int)(n i j:Nat)(a b c:Vc):Prop:=Ct p (ap m (lw ml) n c Av) (fun t=>ap m (lw ml) i a b t+a i*Dt m (lw ml) i (ap m (lw ml) j b Av) t)
def XU(p m:Nat)(ml:List Int)(i j:Nat)(c0 c:Vc):Prop:=Ct p (fun t=>ap m (lw ml) i c Av t) (fun t=>ap m (lw ml) i c0 Av t-c0 i*Dt m (lw ml) (i-m) (ap m (lw ml) j (lw ml) Av) t)
theorem bu{P:Prop}(h:P:=by rw[<-hD];exact⟨Int.emod_nonneg _ ac,Int.emod_lt_of_pos _ ac⟩):P:=h
theorem dj{P:Prop}(h:P:=by rw[Int.tmod_eq_emod_of_nonneg ac];exact hD):P:=h
theorem KU(w:World)(hf:Ha p m ml)(bB:Al w mv ml)(x y:Int):
  Calls Tryz.prog 114 #[.agg #[p,m,mv],x,y] w fun r w'=>r= .returned (.int .i64 (Ai p m (lw ml) (Ar (p^m) x) (Ar (p^m) y):Nat))/\Ex w w':=by
 obtain⟨d0,d1,d2,e0,bP⟩:=AA w p m mv;have cF:=Aa (fun w=>Ec (mv:=mv) w hf x);have cE:=Aa (fun w=>Ec (mv:=mv) w hf y);have bY:=Aa (fun w l v h1 h2 h3=>Hs (mv:=mv) w hf l v h1 h2 h3);have p2:=hf.p2;have m1:=hf.m1;have m8:=hf.m8;have p256:=hf.p256;have hq:=hf.q;have aL:=hf.len;obtain⟨am,cm,rfl,c1,c2,c3⟩:=(bB.ex e0).open;have C3:=Aa c3;have bV:=Aa aL;unfold maxLen at c2;have cD:=Aa (show ∀j,0<=lw ml j/\lw ml j<p from fun j=>by
  unfold lw;rw[List.getD_eq_getElem?_getD];rcases h:ml[j]? with _|z
  .simp;omega
  .exact hf.rng z (List.mem_of_getElem? h))
 generalize Ar (p^m) x=z at *;generalize Ar (p^m) y=t at *;obtain⟨bX,bW,aS,aZ,HQ⟩:=Of (Dy (show 1<=p by omega) m z) (Dy (show 1<=p by omega) m t) (Bq p m t) (fun c h1 h2=>YT (p:=p) (m:=m) (low:=lw ml) (show 1<=p by omega) (x:=z) (y:=t) (c:=c) h1 h2) hq;obtain⟨N,hN⟩:=nA (2*m-1);have hN1:(2:Int)*m-1=(N:Int):=by omega
 have bH:N=2*m-1:=hN.symm;clear hf bB hq c3 aL hN;go_enter Tryz.func114,Tryz.ntmps114
 go_wp2_with fail
 generalize w.alloc (.cells #[p,m,.slice am ml.length cm] 24)=w1 at *;refine(cF.o _).mono ?_;rintro e w2⟨v,rfl,⟨g,rfl,hg⟩,aJ⟩;have r0:=aJ.cell d0;have r1:=aJ.cell d1;have r2:=aJ.cell d2;go_wp2_with fail
 refine(cE.o _).mono ?_;rintro e w3⟨v,rfl,⟨k,rfl,hk⟩,aI⟩;have s0:=aI.cell r0;have s1:=aI.cell r1;have s2:=aI.cell r2;have HG:=Aa (hg.ex aI);have aY:=Aa (hk.mono (show w1.heap.size<=w2.heap.size from aJ.size));have aE:=aJ.trans aI;have HE:=Aa e0;have aN:=Aa bH;clear r0 r1 r2 hg hk aJ aI e0 bP bH;go_wp2_with (at_make;refine Au _ rfl _ _ 22 rfl 3 (.int .i64 0) 8 Tryz.underlying22 AC rfl _ N rfl rfl ac (by have:=aN.o;omega) (by have:=aN.o;unfold maxLen;omega) ?_)
 intro w4 aK aO;obtain⟨h,hh⟩:=nA w3.heap.size;have bT:g<h:=by rw[<-hh];exact HG.o.lt.2
 have bR:k<h:=by rw[<-hh];exact aY.o.lt.2
 obtain⟨bJ,bL,bK,HH⟩:=Eq (show AH w4 w1.heap.size 3 h N (iv fun _=>0) by rw[<-hh];exact aK.mono aE.size) (HG.o.ex aO) (aY.o.ex aO) hh;have aD:=aE.trans aO;have bM:=Aa (show Mc p m ml N 0 0 (AK p m z) (AK p m t) (fun _=>0) from UZ (m:=m) (low:=lw ml) p N _ _);have cG:=Aa (show ∀i j c,i+j<N->Mc p m ml N i j (AK p m z) (AK p m t) c->Mc p m ml N i (j+1) (AK p m z) (AK p m t) (Ih c (i+j) ((c (i+j)+AK p m z i*AK p m t j)%(p:Int))) from fun i j c h1 h2=>U0 (m:=m) (low:=lw ml) h1 h2);have cH:=Aa (show ∀i c,Mc p m ml N i m (AK p m z) (AK p m t) c->Mc p m ml N (i+1) 0 (AK p m z) (AK p m t) c from fun i c h1=>Xy (m:=m) (low:=lw ml) aS.o h1);have q0:=aD.cell d0;have q1:=aD.cell d1;have q2:=aD.cell d2;simp only[hh];clear aK aE aO HG aY hh s0 s1 s2;go_wp2_with fail
 clear q0 q1 q2
 go_loopw [10,11] (fun i' _ wr=>∃(i:Nat) (c:Nat->Int),i<=m/\i'= .int .i64 i/\Hia (AH wr w1.heap.size 3 h N (iv c))/\Hia (∀j,0<=c j/\c j<p)/\Hia (Mc p m ml N i 0 (AK p m z) (AK p m t) c)/\Hia (AH wr w1.heap.size 3 g m (iv (AK p m z)))/\Hia (AH wr w1.heap.size 3 k m (iv (AK p m t)))/\Ex w1 wr) (fun i' _ _=>m-(intOf i').toNat)
 case atStart=>exact⟨0,fun _=>0,ac,rfl,bJ,Aa (fun j=>⟨Int.le_refl 0,(by omega:(0:Int)<p)⟩),bM,bL,bK,aD⟩
 case round=>
  clear bJ bM bL bK aD;obtain⟨i,c,hi,rfl,aA,aB,aH,aG,aF,hx⟩:=hrel;have q0:=hx.cell d0;have q1:=hx.cell d1;have q2:=hx.cell d2;by_cases hlt:i<m
  .obtain⟨wo,rfl⟩:∃wo:World,wo=wr:=⟨_,rfl⟩;go_wp2_with fail
   clear q0 q1 q2
   go_loopw [11] (fun j' wr=>∃(j:Nat) (c:Nat->Int),j<=m/\j'= .int .i64 j/\Hia (AH wr w1.heap.size 3 h N (iv c))/\Hia (∀j,0<=c j/\c j<p)/\Hia (Mc p m ml N i j (AK p m z) (AK p m t) c)/\Hia (AH wr w1.heap.size 3 g m (iv (AK p m z)))/\Hia (AH wr w1.heap.size 3 k m (iv (AK p m t)))/\Ex w1 wr) (fun j' _=>m-(intOf j').toNat)
   case atStart=>exact⟨0,c,ac,rfl,aA,aB,aH,aG,aF,hx⟩
   case round=>
    clear aA aB aH aG aF hx;obtain⟨j,c,hj,rfl,aA,aB,aH,aG,aF,hx⟩:=hrel;have q0:=hx.cell d0;have q1:=hx.cell d1;have q2:=hx.cell d2;by_cases hlj:j<m
    .have bD:i+j<N:=by have:=aN.o;omega
     have bG:=aG.o.cell hlt;have aM:=aF.o.cell hlj;have bF:=aA.o.cell bD;have hcf:=aA.o.frz (i+j);have aC:=Aa (cG.o i j c bD aH.o);obtain⟨a1,a2⟩:=bX.o i;obtain⟨b1,b2⟩:=bW.o j;obtain⟨e1,e2⟩:=aB.o (i+j);have hva:wr.cell? (g,i)=some (.int .i64 (AK p m z i)):=bG;have bO:wr.cell? (k,j)=some (.int .i64 (AK p m t j)):=aM;have hvc:wr.cell? (h,i+j)=some (.int .i64 (c (i+j))):=bF;clear bG aM bF;generalize AK p m z i=u at *;generalize AK p m t j=v at *;have cI:=Aa (show ∀z,c (i+j)=z->True from fun _ _=>trivial);have e3:0<=u*v:=Int.mul_nonneg a1 b1;have e4:u*v<=65536:=by
      have:=Int.mul_le_mul (show u<=256 by omega) (show v<=256 by omega) ac ac;omega
     obtain⟨D,hD⟩:=nA ((c (i+j)+u*v)%(p:Int));have aQ:0<=D/\D<p:=bu;rw[hD]at aC;obtain⟨aT,cB,cA,aR⟩:=Eq (aA.o.set (i+j) (.int .i64 D)) (aG.o.other (a:=(h,i+j)) (Nat.ne_of_lt bT) (.int .i64 D)) (aF.o.other (a:=(h,i+j)) (Nat.ne_of_lt bR) (.int .i64 D)) (aA.o.exSet (Nat.le_refl _) hx (i+j) (.int .i64 D));have aX:=Aa (show ∀l,0<=Az c (i+j) D l/\Az c (i+j) D l<p from fun l=>by
      unfold Az;split
      .exact aQ
      .exact aB.o l)
     have i1:IntKind.i64.wrap ((i:Int)+j)=(i:Int)+j:=IntWalk.i64_in _ ac;have i2:IntKind.i64.wrap (u*v)=u*v:=IntWalk.i64_in _ ac;have i3:IntKind.i64.wrap (c (i+j)+u*v)=c (i+j)+u*v:=IntWalk.i64_in _ ac;have i4:(c (i+j)+u*v).tmod (p:Int)=D:=dj;have i5:((i:Int)+j).toNat=i+j:=ac;have i6:(i:Int)+j<(N:Int):=ac;have i7:0<=(i:Int)+j:=ac;have p0:¬p=0:=ac;clear hD cI;go_wp2_with fail
     go_still_tail 24,ah
     change wpList _ _ _ _ _ wr.drew
     go_wp2_with fail
     go_roundw
     case rel=>exact⟨j+1,Az c (i+j) D,ac,by go_num,Aa (by have:=aT.o.drew;rwa[CC]at this),aX,aC,Aa cB.o.drew,Aa cA.o.drew,aR.o.drew⟩
     case measure=>simp[intOf];omega
    .obtain rfl:j=m:=by omega
     have aC:=Aa (cH.o i c aH.o);go_wp2_with fail
     go_roundw
     case rel=>exact⟨i+1,c,ac,by go_num,aA,aB,aC,aG,aF,hx⟩
     case measure=>simp[intOf];omega
  .obtain rfl:i=m:=by omega
   have HT:=Aa (show Ct p (ap i (lw ml) N c Av) (ap i (lw ml) i (AK p i z) (AK p i t)) from fun s=>by
    rw[aH.o s];have e:Dt i (lw ml) i (ap i (lw ml) 0 (AK p i t) Av) s=0:=by
     simp only[ap];rw[(EZ i).zero]
    dsimp only;rw[e];simp)
   clear aH aG aF;have aU:=Aa (show ∀(a:Nat) (c:Nat->Int),XU p i ml a 0 c c from fun a c=>M4 (m:=i) (low:=lw ml) p c);have aV:=Aa (show ∀(a j:Nat) (c c0:Nat->Int),i<=a->j<i->XU p i ml a j c0 c->c a=c0 a->XU p i ml a (j+1) c0 (Ih c (a-i+j) ((c (a-i+j)+((p:Int)-c a)*lw ml j)%(p:Int))) from fun a j c c0 h1 h2 h3 h4=>PF (m:=i) (low:=lw ml) (T:=c0) h1 h2 h3 h4);have aW:=Aa (show ∀(a:Nat) (c c0:Nat->Int) (T:Vc),i<=a->Ct p (ap i (lw ml) (a+1) c0 Av) T->XU p i ml a i c0 c->Ct p (ap i (lw ml) a c Av) T from fun a c c0 T h1 h2 h3=>SX (m:=i) (low:=lw ml) m1 h1 h2 h3);go_wp2_with fail
   clear q0 q1 q2
   go_loopw [12,13] (fun i' _ wr=>∃(a:Nat) (c:Nat->Int),i<=a/\a<=N/\i'= .int .i64 ((a:Int)-1)/\Hia (AH wr w1.heap.size 3 h N (iv c))/\Hia (∀j,0<=c j/\c j<p)/\Hia (Ct p (ap i (lw ml) a c Av) (ap i (lw ml) i (AK p i z) (AK p i t)))/\Ex w1 wr) (fun i' _ _=>(intOf i'+1).toNat)
   case atStart=>exact⟨N,c,by have:=aN.o;omega,Nat.le_refl _,by rw[show(2:Int)*i-2=(N:Int)-1 by omega],aA,aB,HT,hx⟩
   case round=>
    clear aA aB HT hx;obtain⟨a,c,ha1,ha2,rfl,aA,aB,hT,hx⟩:=hrel;have q0:=hx.cell d0;have q1:=hx.cell d1;have q2:=hx.cell d2;by_cases hai:i<a
    .obtain⟨b,rfl⟩:∃b,a=b+1:=⟨a-1,ac⟩;have eb:(((b+1:Nat)):Int)-1=b:=by omega
     rw[eb];have aP:i<=b:=ac;have hbi:(i:Int)<=(b:Int):=ac;clear eb hai;obtain⟨wo,rfl⟩:∃wo:World,wo=wr:=⟨_,rfl⟩;have bI:=Aa (aU.o b c);go_wp2_with fail
     clear q0 q1 q2
     go_loopw [13] (fun j' wr=>∃(j:Nat) (c':Nat->Int),j<=i/\j'= .int .i64 j/\Hia (AH wr w1.heap.size 3 h N (iv c'))/\Hia (∀j,0<=c' j/\c' j<p)/\Hia (XU p i ml b j c c')/\Hia (c' b=c b)/\Ex w1 wr) (fun j' _=>i-(intOf j').toNat)
     case atStart=>exact⟨0,c,ac,rfl,aA,aB,bI,Aa rfl,hx⟩
     case round=>
      clear aA aB hx bI;obtain⟨j,c',hj,rfl,aA,aB,bA,aM,hx⟩:=hrel;have q0:=hx.cell d0;have q1:=hx.cell d1;have q2:=hx.cell d2;by_cases hlj:j<i
      .have bQ:ml.length=i:=by
        have:=bV.o;rw[if_neg (by have:=aN.o;omega)]at this;exact this
       obtain⟨bb,oo,rfl,bE⟩:=C3.o ac;have hm0:=hx.cell (bE j (lw ml j) (by unfold lw;rw[List.getD_eq_getElem?_getD,List.getElem?_eq_getElem ac];rfl));have aC:=Aa (aV.o b j c' c aP hlj bA.o aM.o);have bU:b<N:=by omega
       have bS:b-i+j<N:=ac;have bC:b-i+j≠b:=ac;have bO:wr.cell? (h,b)=some (.int .i64 (c' b)):=aA.o.cell bU;have hvj:wr.cell? (h,b-i+j)=some (.int .i64 (c' (b-i+j))):=aA.o.cell bS;have hvf:=aA.o.frz (b-i+j);obtain⟨u1,u2⟩:=aB.o b;obtain⟨v1,v2⟩:=aB.o (b-i+j);obtain⟨l1,l2⟩:=cD.o j;have hjl:j<ml.length:=ac;obtain⟨D,hD⟩:=nA ((c' (b-i+j)+((p:Int)-c' b)*lw ml j)%(p:Int));have aQ:0<=D/\D<p:=bu;rw[hD]at aC;have aT:=Aa (aA.o.set (b-i+j) (.int .i64 D));have aR:=Aa (aA.o.exSet (Nat.le_refl _) hx (b-i+j) (.int .i64 D));have aX:=Aa (show ∀l,0<=Az c' (b-i+j) D l/\Az c' (b-i+j) D l<p from fun l=>by
        unfold Az;split
        .exact aQ
        .exact aB.o l)
       have cJ:=Aa (show Az c' (b-i+j) D b=c b by rw[Ad _ _ (Ne.symm bC)];exact aM.o);generalize lw ml j=lj at *;have e3:0<=((p:Int)-c' b)*lj:=Int.mul_nonneg ac l1;have e4:((p:Int)-c' b)*lj<=65536:=by
        have:=Int.mul_le_mul (show(p:Int)-c' b<=256 by omega) (show lj<=256 by omega) l1 ac;omega
       have i1:IntKind.i64.wrap ((b:Int)-i)=(b:Int)-i:=IntWalk.i64_in _ ac;have i2:IntKind.i64.wrap ((b:Int)-i+j)=(b:Int)-i+j:=IntWalk.i64_in _ ac;have i3:IntKind.i64.wrap ((p:Int)-c' b)=(p:Int)-c' b:=IntWalk.i64_in _ ac;have i4:IntKind.i64.wrap (((p:Int)-c' b)*lj)=((p:Int)-c' b)*lj:=IntWalk.i64_in _ ac;have i5:IntKind.i64.wrap (c' (b-i+j)+((p:Int)-c' b)*lj)=c' (b-i+j)+((p:Int)-c' b)*lj:=IntWalk.i64_in _ ac;have i6:(c' (b-i+j)+((p:Int)-c' b)*lj).tmod (p:Int)=D:=dj;have i7:((b:Int)-i+j).toNat=b-i+j:=ac;have i8:0<=(b:Int)-i+j:=ac;have i9:(b:Int)-i+j<(N:Int):=ac;have p0:¬p=0:=ac;clear hD bE bC bQ;go_wp2_with fail
       go_still_tail 34,ah
       change wpList _ _ _ _ _ wr.drew
       go_wp2_with fail
       go_roundw
       case rel=>exact⟨j+1,Az c' (b-i+j) D,ac,by go_num,Aa (by have:=aT.o.drew;rwa[CC]at this),aX,aC,cJ,aR.o.drew⟩
       case measure=>simp[intOf];omega
      .obtain rfl:j=i:=by omega
       have bZ:=Aa (aW.o b c' c _ aP hT.o bA.o);go_wp2_with fail
       go_roundw
       case rel=>exact⟨b,c',aP,ac,rfl,aA,aB,bZ,hx⟩
       case measure=>simp[intOf]
    .obtain rfl:a=i:=by omega
     have HL:=Aa (aA.o.pre (show a<=N by omega));have HB:=Aa (show ∀e∈il a c,0<=e/\e<p from fun e he=>by
      obtain⟨j,_,rfl⟩:=Ot he;exact aB.o j)
     have cC:=Aa (show p^(il a c).length<=65536 by rw[An];have:=HQ.o;omega);have HR:=Aa (show vl p (il a c)=((Ai p a (lw ml) z t:Nat):Int) by rw[Pf];exact aZ.o c (fun j _=>aB.o j) hT.o);clear aA aB hT;have i1:(0:Int)<=(a:Int):=by omega
     have i2:(a:Int)<=(N:Int):=ac;go_wp2_with fail
     go_still_tail 5,ah
     change wpList _ _ _ _ _ wr.drew
     go_wp2_with fail
     refine(bY.o _ _ _ (HL.o.ex (Ex.refl _).drew) HB.o cC.o).mono ?_;rintro e w9⟨rfl,bN⟩;go_wp2_with fail
     go_ret;exact⟨Af HR.o,(HE.o.trans hx.drew).trans bN⟩
end
section
variable {p m:Nat} {ml:List Int} {mv:Value}
theorem UN{z:Nat}(h:∀y,1<=y->y<p^m->Ai p m (lw ml) z y≠1):Ed p m ml z=0:=by
 unfold Ed;rcases hf:(List.range (p^m)).find? (fun y=>decide (1<=y)&&Ai p m (lw ml) z y==1) with _|i
 .rfl
 .exfalso;have h1:=List.find?_some hf;have h2:=List.mem_range.1 (List.mem_of_find?_eq_some hf);simp at h1;exact h i h1.1 h2 h1.2
theorem RT{z y:Nat}(h1:1<=y)(h2:y<p^m)(h3:Ai p m (lw ml) z y=1)(h:∀c,1<=c->c<y->Ai p m (lw ml) z c≠1):Ed p m ml z=y:=by
 unfold Ed;rcases hf:(List.range (p^m)).find? (fun y=>decide (1<=y)&&Ai p m (lw ml) z y==1) with _|i
 .exfalso;have:=List.find?_eq_none.1 hf y (List.mem_range.2 h2);simp[h1,h3]at this
 .have k1:=List.find?_some hf;simp at k1;rcases Nat.lt_trichotomy i y with e|e|e
  .exact absurd k1.2 (h i k1.1 e)
  .exact e
  .exfalso;have:=List.not_of_lt_findIdx (p:=fun y=>decide (1<=y)&&Ai p m (lw ml) z y==1) (xs:=List.range (p^m)) (i:=y) (by
    rcases Nat.lt_or_ge y (List.findIdx (fun y=>decide (1<=y)&&Ai p m (lw ml) z y==1) (List.range (p^m))) with a|a
    .exact a
    .exfalso;have hk:List.findIdx (fun y=>decide (1<=y)&&Ai p m (lw ml) z y==1) (List.range (p^m))<(List.range (p^m)).length:=by simp;omega
     have hq:=List.find?_eq_some_iff_getElem.1 hf;obtain⟨_,j,hj,e1,e2⟩:=hq;simp at e1;subst e1;have:=e2 y ac;simp[h1,h3]at this)
   simp[h1,h3]at this
theorem VT(w:World)(hf:Ha p m ml)(aE:Al w mv ml)(x:Int):
  Calls Tryz.prog 244 #[.agg #[p,m,mv],x] w fun r w'=>r= .returned (.int .i64 (Ed p m ml (Ar (p^m) x):Nat))/\Ex w w':=by
 obtain⟨d0,d1,d2,e0,aH⟩:=AA w p m mv;have DV:=hf.ord;have hq:=hf.q;obtain⟨aF,HM,aI,HN,HF,aG⟩:=To (fun w=>by have:=DP p m mv w;rw[DV]at this;exact this) (fun w y (h:Al w mv ml)=>KU w hf h x y) aE (UN (p:=p) (m:=m) (ml:=ml) (z:=Ar (p^m) x)) (fun y h1 h2 h3 h=>RT (p:=p) (m:=m) (ml:=ml) (z:=Ar (p^m) x) (y:=y) h1 h2 h3 h) (fun y (h:y<p^m)=>Ay h);generalize Ar (p^m) x=z at *;obtain⟨q,aD⟩:=nA (p^m);simp only[aD]at hq aF HM HN HF aG;clear hf aE aD DV aH;go_enter Tryz.func244,Tryz.ntmps244
 go_wp2_with fail
 generalize w.alloc (.cells #[p,m,mv] 24)=w1 at *
 go_loopw [5] (fun y' wr=>∃y:Nat,1<=y/\y'= .int .i64 y/\Hia (∀c,1<=c->c<y->Ai p m (lw ml) z c≠1)/\y<=300/\Ex w1 wr) (fun y' _=>300-(intOf y').toNat)
 case atStart=>exact⟨1,ac,rfl,Aa (fun c a b=>ac),ac,Ex.refl _⟩
 case round=>
  obtain⟨y,hy,rfl,aB,hy3,hx⟩:=hrel;have r0:=hx.cell d0;have r1:=hx.cell d1;have r2:=hx.cell d2;go_wp2_with fail
  refine(aF.o _).mono ?_;rintro e w2⟨rfl,aA⟩;have s0:=aA.cell r0;have s1:=aA.cell r1;have s2:=aA.cell r2;by_cases hlt:y<q
  .go_wp2_with fail
   refine(HM.o _ _ (aI.o.ex (e0.trans (hx.trans aA)))).mono ?_;rw[aG.o y hlt];rintro e w3⟨rfl,aC⟩;by_cases h1:Ai p m (lw ml) z y=1
   .have hb:(((Ai p m (lw ml) z y:Nat):Int)==1)=true:=by simp;omega
    have HR:=Aa (HF.o y hy hlt h1 aB.o);clear h1;generalize Ai p m (lw ml) z y=kz at *;go_wp2_with fail
    go_ret;exact⟨Af (by rw[HR.o]),e0.trans ((hx.trans aA).trans aC)⟩
   .have hb:(((Ai p m (lw ml) z y:Nat):Int)==1)=false:=by simp;omega
    have HA:=Aa (show ∀c,1<=c->c<y+1->Ai p m (lw ml) z c≠1 from fun c a b=>by
     by_cases e:c=y
     .subst e;exact h1
     .exact aB.o c a ac)
    clear h1;generalize Ai p m (lw ml) z y=kz at *;go_wp2_with fail
    go_roundw
    case rel=>exact⟨y+1,ac,by go_num,HA,ac,(hx.trans aA).trans aC⟩
    case measure=>simp[intOf];omega
  .have HR:=Aa (HN.o fun c a b=>aB.o c a ac);go_wp2_with fail
   go_ret;exact⟨Af (by rw[HR.o];rfl),e0.trans (hx.trans aA)⟩
end
def A9(w:World)(base:Nat)(e:TypeId)(g n cap:Nat)(c:Nat->Value):Prop:=w.ownsRow base e 1 (.slice (some (g,0)) n cap) n (vs n c)
section
variable {w:World} {base:Nat} {e:TypeId} {g n cap:Nat} {c:Nat->Value}
theorem A9.cell(h:A9 w base e g n cap c){j:Nat}(hj:j<n):w.cell? (g,j)=some (c j):=by
 rw[World.ownsRow.cellAt h j ac,Dk hj]
theorem A9.frz(h:A9 w base e g n cap c)(j:Nat):w.frozen? (g,j)=false:=World.ownsRow.frozenAt h j
theorem A9.set(h:A9 w base e g n cap c)(j:Nat)(u:Value):A9 (w.setCell (g,j) u) base e g n cap (Az c j u):=by
 have:=(World.ownsRow.stored h j u).1
 rwa[Vl]at this
theorem A9.congr{d:Nat->Value}(h:A9 w base e g n cap c)(hc:∀j,j<n->c j=d j):A9 w base e g n cap d:=by
 unfold A9 at *
 rwa[Pe hc]at h
theorem A9.icongr{f k:Nat->Int}(h:A9 w base e g n cap (iv f))(hc:∀j,j<n->f j=k j):A9 w base e g n cap (iv k):=
 h.congr fun j hj=>congrArg (Value.int .i64) (hc j hj)
theorem A9.ex{w':World}(h:A9 w base e g n cap c)(hx:Ex w w'):A9 w' base e g n cap c:=Aj h hx
theorem A9.drew(h:A9 w base e g n cap c):A9 w.drew base e g n cap c:=h
theorem A9.drewN(h:A9 w base e g n cap c)(k:Nat):A9 (w.drewN k) base e g n cap c:=h.ex ((Ex.refl w).drewN k)
theorem A9.lt(h:A9 w base e g n cap c):base<=g/\g<w.heap.size:=World.ownsRow.lt h g rfl
theorem A9.caps(h:A9 w base e g n cap c):n<=cap/\cap<=maxLen:=by
 rcases h.2 with⟨h',_⟩|⟨g',cap',cur,h',_,hg,h1,h2,_⟩
 .simp at h'
 .simp only[Value.slice.injEq,Option.some.injEq,Addr.mk.injEq,and_true,true_and]at h';obtain⟨_,rfl⟩:=h';exact⟨h1,h2⟩
theorem A9.other(h:A9 w base e g n cap c){a:Addr}(ha:g≠a.block)(u:Value):A9 (w.setCell a u) base e g n cap c:=
 Ac h (fun e=>ha (by simpa[Value.ownBlock]using e)) u
theorem A9.exSet{a:World}(h:A9 w base e g n cap c)(hb:a.heap.size<=base)(hx:Ex a w)(j:Nat)(u:Value):Ex a (w.setCell (g,j) u):=
 hx.setCell (p:=(g,j)) (Nat.le_trans hb h.lt.1) u
theorem A9.sl(h:A9 w base e g n cap c):Sl w (.slice (some (g,0)) n cap) n 1 (vs n c):=Sl.own h
theorem A9.isl{f:Nat->Int}(h:A9 w base e g n cap (iv f)):Al w (.slice (some (g,0)) n cap) (il n f):=by
 unfold Al;rw[An,Cu];exact h.sl
theorem Kd{v:Value}(h:w.ownsRow base e 1 v n (vs n c))(hn:1<=n):∃g cap,v= .slice (some ⟨g,0,none⟩) n cap/\A9 w base e g n cap c:=by
 rcases h.2 with⟨_,h0⟩|⟨g,cap,cur,rfl,_⟩
 .omega
 .exact⟨g,cap,rfl,h⟩
end
end Go.Proofs.YtehieobniamagaaGreat
