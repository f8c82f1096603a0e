/- A region that draws its order, by one invariant: each operation is shown once, whatever has come up before it. -/
import Derived.Test.YtehieobniamagaaGreatZi01
namespace Go.Proofs.YtehieobniamagaaGreat
open Bool renaming and_eq_true→Ξ
open Nat renaming zero_add→ύ,le_refl→ζ,lt_of_le_of_ne→μc
open List renaming range→ξ,countP_append→ζl,all_eq_true→υ,mem_range→κ,getElem?_eq_some_iff→θ,getElem?_eq_getElem→γ
open Go.Region renaming binds→ϊ,ready→ηe,wanted→ζi
open Go.RowKit
set_option linter.all false
def Mm(n:Nat):List Oper->Nat->List Nat->Bool
 | [],_,_=>true
 | o :: l,k,seen=>o.guard.isNone&&(o.after.all fun e=>decide (e.on<k))&&(match o.dst with
  | none=>Mm n l (k+1) seen
  | some d=>decide (d<n) && !seen.contains d&&Mm n l (k+1) (d :: seen))
structure Ut(ops:Array Oper)(n:Nat):Prop where
 free:∀(i:Nat) (o:Oper),ops[i]?=some o->o.guard=none
 wait:∀(i:Nat) (o:Oper),ops[i]?=some o->∀e∈o.after,(e:Edge).on<i
 lt:∀(i:Nat) (o:Oper) (d:Nat),ops[i]?=some o->o.dst=some d->d<n
 inj:∀(i j:Nat) (oi oj:Oper) (d:Nat),ops[i]?=some oi->ops[j]?=some oj->oi.dst=some d->oj.dst=some d->i=j
theorem zaE{P:Prop}(h:P:=by
 rw[hd]at h3;simp only[Bool.and_eq_true]at h3;refine⟨by simpa using h3.1.1,by simpa using h3.1.2,fun j oj hj=>by omega⟩):P:=h
theorem zbk{P:Prop}(h:P:=by
 obtain⟨c1,c2,c3⟩:=c d hd;refine⟨c1,fun h=>c2 (List.mem_cons_of_mem _ h),fun j oj hj ho=>?_⟩
 cases j with
 | zero=>
  simp at ho;subst ho;rw[hdo];intro e;injection e with e;exact c2 (by rw[e];exact List.mem_cons_self ..)
 | succ j=>simp at ho;exact c3 j oj (by omega) ho):P:=h
theorem zbB{P:Prop}(h:P:=by
 obtain⟨c1,c2,c3⟩:=c d hd;refine⟨c1,c2,fun j oj hj ho=>?_⟩
 cases j with
 | zero=>simp at ho;subst ho;rw[hdo];simp
 | succ j=>simp at ho;exact c3 j oj (by omega) ho):P:=h
theorem I3(n:Nat):∀(l:List Oper) (k:Nat) (aA:List Nat),Mm n l k aA=true->∀(i:Nat) (o:Oper),l[i]?=some o->
  o.guard=none/\(∀e∈o.after,e.on<k+i)/\∀d,o.dst=some d->d<n/\d ∉ aA/\∀j oj,j<i->l[j]?=some oj->oj.dst≠some d
 | [],_,_,_,i,o,h=>by simp at h
 | o :: l,k,aA,h,i,o',hi=>by
  unfold Mm at h;rw[Ξ,Ξ]at h;obtain⟨⟨h1,h2⟩,h3⟩:=h
  cases i with
  | zero=>
   simp at hi;subst hi;refine⟨by simpa using h1,fun e he=>?_,fun d hd=>?_⟩
   .rw[Array.all_eq_true_iff_forall_mem]at h2;have:=h2 e he;simpa using this
   .exact zaE
  | succ i=>
   simp at hi
   cases hdo:o.dst with
   | none=>
    rw[hdo]at h3;obtain⟨a,b,c⟩:=I3 n l (k+1) aA h3 i o' hi;refine⟨a,fun e he=>by have:=b e he;omega,fun d hd=>?_⟩;exact zbB
   | some d0=>
    rw[hdo]at h3;simp only[Ξ]at h3;obtain⟨a,b,c⟩:=I3 n l (k+1) (d0 :: aA) h3.2 i o' hi;refine⟨a,fun e he=>by have:=b e he;omega,fun d hd=>?_⟩;exact zbk
theorem rgn_ok{l:List Oper}{n:Nat}(h:Mm n l 0 []=true):Ut l.toArray n:=by
 have aA:=I3 n l 0 [] h;have hg:∀(i:Nat) o,l.toArray[i]?=some o->l[i]?=some o:=fun i o h=>ay;refine⟨fun i o ho=>(aA i o (hg i o ho)).1,fun i o ho e he=>by have:=(aA i o (hg i o ho)).2.1 e he;omega,fun i o d ho hd=>((aA i o (hg i o ho)).2.2 d hd).1,fun i j oi oj d hi hj h1 h2=>?_⟩;rcases Nat.lt_trichotomy i j with e|e|e
 .exact absurd h1 (((aA j oj (hg j oj hj)).2.2 d h2).2.2 i oi e (hg i oi hi))
 .exact e
 .exact absurd h2 (((aA i oi (hg i oi hi)).2.2 d h1).2.2 j oj e (hg j oj hj))
structure FU(ops:Array Oper)(a0:Act)(L:Nat->Bool)(vals:Nat->Value)(a:Act):Prop where
 sz:a.tmps.size=a0.tmps.size
 df:a.defers=a0.defers
 got:∀(i:Nat) (o:Oper) (d:Nat),L i=true->ops[i]?=some o->o.dst=some d->a.tmps[d]?=some (vals i)
 old:∀(s:Nat),(∀(i:Nat) (o:Oper),L i=true->ops[i]?=some o->o.dst≠some s)->a.tmps[s]?=a0.tmps[s]?
section
variable {ops:Array Oper} {a0 a a':Act} {L L':Nat->Bool} {vals:Nat->Value}
theorem FU.congr(h:FU ops a0 L vals a)(hL:∀i,i<ops.size->L i=L' i):FU ops a0 L' vals a:=by
 have hs:∀i o,ops[i]?=some o->i<ops.size:=fun i o h=>(Array.getElem?_eq_some_iff.1 h).1;exact⟨h.sz,h.df,fun i o d hi ho hd=>h.got i o d (by rw[hL i (hs i o ho)];exact hi) ho hd,fun s hn=>h.old s fun i o hi ho=>hn i o (by rw[<-hL i (hs i o ho)];exact hi) ho⟩
theorem FU.uniq(h:FU ops a0 L vals a)(k:FU ops a0 L vals a'):a=a':=by
 have h1:a.tmps=a'.tmps:=by
  apply Array.ext_getElem?;intro s;by_cases hs:∃i o,L i=true/\ops[i]?=some o/\o.dst=some s
  .obtain⟨i,o,h1,h2,h3⟩:=hs;rw[h.got i o s h1 h2 h3,k.got i o s h1 h2 h3]
  .rw[h.old s fun i o h1 h2 h3=>hs ⟨i,o,h1,h2,h3⟩,k.old s fun i o h1 h2 h3=>hs ⟨i,o,h1,h2,h3⟩]
 have h2:a.defers=a'.defers:=h.df.trans k.df.symm;cases a;cases a'
 simp only at h1 h2;subst h1 h2;rfl
theorem zai{P:Prop}(h:P:=by
 show(a.tmps.setIfInBounds d0 v)[d]?=_
 by_cases e:j=i
 .subst e;rw[ho]at aA;injection aA with aA;subst aA;rw[hd]at aB;injection aB with aB;subst aB;rw[Array.getElem?_setIfInBounds_self_of_lt aD,Ab]
 .have aC:d0≠d:=fun e2=>e (H.inj j i oj o d aA ho aB (by rw[hd,e2]));rw[Array.getElem?_setIfInBounds_ne aC,Ac _ _ e];rw[Ac _ _ e]at hj;exact h.got j oj d hj aA aB):P:=h
theorem zaj{P:Prop}(h:P:=by
 show(a.tmps.setIfInBounds d0 v)[s]?=_
 have aC:d0≠s:=fun e2=>hn i o (Ab _ _ _) ho (by rw[hd,e2]);rw[Array.getElem?_setIfInBounds_ne aC];exact h.old s fun j oj hj aA=>by
  by_cases e:j=i
  .subst e;rw[ho]at aA;injection aA with aA;subst aA;rw[hd];intro e2;injection e2 with e2;exact aC e2
  .exact hn j oj (by rw[Ac _ _ e];exact hj) aA):P:=h
theorem zaB{P:Prop}(h:P:=by
 by_cases e:j=i
 .subst e;rw[ho]at aA;injection aA with aA;subst aA;rw[hd]at aB;cases aB
 .rw[Ac _ _ e]at hj ⊢;exact h.got j oj d hj aA aB):P:=h
theorem zaF{P:Prop}(h:P:=by
 by_cases e:j=i
 .subst e;rw[ho]at aA;injection aA with aA;subst aA;rw[hd];simp
 .exact hn j oj (by rw[Ac _ _ e];exact hj) aA):P:=h
theorem zbi{P:Prop}(h:P:=by
 cases hd:o.dst with
 | none=>
  refine⟨h.sz,h.df,fun j oj d hj aA aB=>?_,fun s hn=>h.old s fun j oj hj aA=>?_⟩
  .exact zaB
  .exact zaF
 | some d0=>
  have aD:d0<a.tmps.size:=by rw[h.sz];exact H.lt i o d0 ho hd
  refine⟨by show(a.tmps.setIfInBounds d0 v).size=_;rw[Array.size_setIfInBounds];exact h.sz,h.df,fun j oj d hj aA aB=>?_,fun s hn=>?_⟩
  .exact zai
  .exact zaj):P:=h
theorem FU.step(H:Ut ops a0.tmps.size)(h:FU ops a0 L vals a){i:Nat}{o:Oper}(ho:ops[i]?=some o)(v:Value):FU ops a0 (Ay L i true) (Ay vals i v) (a.put o.dst v):=by
 exact zbi
def Cg(ops:List Oper)(vals:Nat->Value):Nat->Act->Act:=match ops with
 | []=>fun _ a=>a
 | o :: l=>fun k a=>Cg l vals (k+1) (a.put o.dst (vals k))
end
theorem az{P:Prop}(h:P:=by cases h):P:=h
theorem FU.init(ops:Array Oper)(a0:Act)(vals:Nat->Value):FU ops a0 (fun _=>false) vals a0:=⟨rfl,rfl,fun i o d h=>az,fun s _=>rfl⟩
theorem zcw{P:Prop}(h:P:=by
 funext i;by_cases e:i=aA.length
 .subst e;rw[Ab];simp
 .rw[Ac _ _ e];simp;omega):P:=h
theorem FU.putK{l0:List Oper}{a0:Act}(H:Ut l0.toArray a0.tmps.size)(vals:Nat->Value):∀(l aA:List Oper) (a:Act),aA++l=l0->FU l0.toArray a0 (fun i=>decide (i<aA.length)) vals a->FU l0.toArray a0 (fun i=>decide (i<l0.length)) vals (Cg l vals aA.length a)
 | [],aA,a,he,h=>by
  rw[List.append_nil]at he;subst he;exact h
 | o :: l,aA,a,he,h=>by
  have ho:l0.toArray[aA.length]?=some o:=by rw[<-he];simp
  have h1:=h.step H ho (vals aA.length);have e1:Ay (fun i=>decide (i<aA.length)) aA.length true=fun i=>decide (i<(aA ++ [o]).length):=by
   exact zcw
  have e2:Ay vals aA.length (vals aA.length)=vals:=by
   funext i;by_cases e:i=aA.length
   .subst e;rw[Ab]
   .rw[Ac _ _ e]
  rw[e1,e2]at h1;have h2:=FU.putK H vals l (aA ++ [o]) (a.put o.dst (vals aA.length)) (by rw[<-he];simp) h1;rw[List.length_append]at h2;exact h2
theorem Uf(p:Nat->Bool)(m:Nat): [m].countP p=if p m=true then 1 else 0:=by
 rw[List.countP_cons,List.countP_nil,ύ]
theorem ae{P:Prop}(h:P:=by decide):P:=h
theorem O0(L:Nat->Bool)(i:Nat)(hi:L i=false):∀m,(ξ m).countP (fun j=> !(Ay L i true) j)+(if i<m then 1 else 0)=(ξ m).countP (fun j=> !L j)
 | 0=>by simp
 | m+1=>by
  have ih:=O0 L i hi m;rw[List.range_succ,ζl,ζl,Uf,Uf];by_cases e:m=i
  .subst e;rw[if_neg ac]at ih;rw[Ab,hi,if_neg ae,if_pos ac,if_pos ae];omega
  .rw[Ac _ _ e];by_cases e2:i<m
   .rw[if_pos e2]at ih;rw[if_pos (show i<m+1 by omega)];omega
   .rw[if_neg e2]at ih;rw[if_neg (show ¬i<m+1 by omega)];omega
def AH(F:Nat->Oper->Prop):List Oper->Nat->Prop
 | [],_=>True
 | o :: l,k=>F k o/\AH F l (k+1)
theorem AH.get{F:Nat->Oper->Prop}:∀ {l:List Oper} {k i:Nat} {o:Oper},AH F l k->l[i]?=some o->F (k+i) o
 | [],_,_,_,_,hi=>by cases hi
 | o :: l,k,0,o',h,hi=>by
  have:o=o':=Option.some.inj hi;subst this;exact h.1
 | o :: l,k,i+1,o',h,hi=>by
  have h1:F (k+1+i) o':=AH.get (l:=l) h.2 hi;rw[show k+(i+1)=k+1+i from ac];exact h1
section
variable {P:Program} {Q:Exit->Act->World->Prop} {J:(Nat->Bool)->(Nat->Value)->World->Prop} {a0:Act}
def SO(P:Program)(Q:Exit->Act->World->Prop)(J:(Nat->Bool)->(Nat->Value)->World->Prop)(ops:Array Oper)(a0:Act)(i:Nat)(o:Oper):Prop:=
 ∀L vals a w,FU ops a0 L vals a->J L vals w->L i=false->(∀e∈o.after,ϊ .any e=true->L e.on=true)->(∀(k:Nat) (o':Oper),L k=true->ops[k]?=some o'->∀e∈o'.after,ϊ .any e=true->L e.on=true)->
  ∀K:Act->World->Prop,(∀v w',J (Ay L i true) (Ay vals i v) w'->K (a.put o.dst v) w')->o.wp P a w K Q
theorem zaG{P:Prop}(h:P:=by
 rw[Ac _ _ e];rw[Array.getD_eq_getD_getElem?,Array.getD_eq_getD_getElem?,Array.getElem?_setIfInBounds_ne (fun h=>e h.symm)]):P:=h
theorem zbH{P:Prop}(h:P:=by
 have h0:(List.range l.length).countP (fun i=> !listed.getD i false)=0:=by omega
 have:=List.countP_eq_zero.1 h0 i (List.mem_range.2 hi);simpa using this):P:=h
theorem bn{P:Prop}(h:P:=by simpa using (Array.getElem?_eq_some_iff.1 h2).1):P:=h
theorem Zp{l:List Oper}(H:Ut l.toArray a0.tmps.size)(hs:AH (SO P Q J l.toArray a0) l 0)
  (he:∀L vals w,(∀i,i<l.length->L i=true)->J L vals w->Q .normal (Cg l vals 0 a0) w):
  ∀fuel (listed:Array Bool) a w vals,listed.size=l.length->(ξ l.length).countP (fun i=> !listed.getD i false)<=fuel->(∀(k:Nat) (o':Oper),listed.getD k false=true->l.toArray[k]?=some o'->∀e∈o'.after,ϊ .any e=true->listed.getD e.on false=true)->FU l.toArray a0 (fun i=>listed.getD i false) vals a->J (fun i=>listed.getD i false) vals w->wpAny P .any l.toArray Q fuel listed a w:=by
 have aE:∀(listed:Array Bool) a w vals,listed.size=l.length->(∀i,i<l.length->listed.getD i false=true)->FU l.toArray a0 (fun i=>listed.getD i false) vals a->J (fun i=>listed.getD i false) vals w->Q .normal a w:=fun listed a w vals aB aA hf hj=>by
  have h1:=he _ vals w aA hj;have h2:=FU.putK H vals l [] a0 rfl ((FU.init l.toArray a0 vals).congr fun i hi=>ag);have h3:=hf.uniq (h2.congr fun i hi=>by
   have aI:i<l.length:=by simpa using hi
   simp only[aI,decide_true];exact(aA i aI).symm)
  rw[h3];exact h1
 have aA:∀(listed:Array Bool),listed.size=l.length->ηe .any l.toArray listed= []->∀i,i<l.length->listed.getD i false=true:=fun listed aB hr i=>by
  induction i using Nat.strongRecOn with
  | ind i ih=>
   intro hi
   cases hb:listed.getD i false with
   | true=>rfl
   | false=>
    exfalso;have ho:l.toArray[i]?=some l[i]:=by simp[hi]
    have hm:i∈ηe .any l.toArray listed:=mem_ready.2 ⟨by
     have aC:i<listed.size:=ac;simp[Array.getD,aC]at hb ⊢;exact hb,l[i],ho,fun e aM _=>by
     have hw:=H.wait i _ ho e aM;exact ih e.on hw ac⟩
    rw[hr]at hm;cases hm
 intro fuel
 induction fuel with
 | zero=>
  intro listed a w vals aB hc aH hf hj;have ha:∀i,i<l.length->listed.getD i false=true:=fun i hi=>by
   exact zbH
  refine⟨?_,aE listed a w vals aB ha hf hj⟩
  cases hr:ηe .any l.toArray listed with
  | nil=>rfl
  | cons x t=>
   exfalso;have hm:x∈ηe .any l.toArray listed:=by rw[hr];exact List.mem_cons_self ..
   obtain⟨h1,o,h2,_⟩:=mem_ready.1 hm;have hx:x<l.length:=bn;have h3:=ha x hx;have aC:x<listed.size:=ac;simp[Array.getD,aC]at h1 h3;rw[h1]at h3;cases h3
 | succ fuel ih=>
  intro listed a w vals aB hc aH hf hj;refine⟨fun hr=>aE listed a w vals aB (aA listed aB hr) hf hj,fun i hi=>?_⟩;obtain⟨h1,o,h2,h3⟩:=mem_ready.1 hi;have aL:i<l.length:=bn;have aC:i<listed.size:=ac;have aJ:listed.getD i false=false:=by
   simp[Array.getD,aC]at h1 ⊢;exact h1
  have aP:l[i]?=some o:=by simpa using h2
  have BF:SO P Q J l.toArray a0 (0+i) o:=hs.get aP;rw[ύ]at BF;have aF:(fun j=>(listed.setIfInBounds i true).getD j false)=Ay (fun j=>listed.getD j false) i true:=by
   funext j;by_cases e:j=i
   .subst e;rw[Ab];simp[Array.getD,aC]
   .exact zaG
  unfold wpOp;rw[h2];have hw:ζi o (yielded l.toArray a.tmps)=true:=by simp[ζi,H.free i o h2]
  simp only[hw,if_true];refine .inl (BF _ vals a w hf hj aJ (fun e he hb=>h3 e he hb) aH _ fun v w' aK=>?_);have aG:∀(k:Nat) (o':Oper),(listed.setIfInBounds i true).getD k false=true->l.toArray[k]?=some o'->∀e∈o'.after,ϊ .any e=true->(listed.setIfInBounds i true).getD e.on false=true:=fun k o' hk aD e he hb=>by
   have e1:=congrFun aF k;have e2:=congrFun aF e.on;rw[e1]at hk;rw[e2];by_cases h0:e.on=i
   .rw[h0,Ab]
   .rw[Ac _ _ h0];by_cases h4:k=i
    .subst h4;rw[h2]at aD;injection aD with aD;subst aD;exact h3 e he hb
    .rw[Ac _ _ h4]at hk;exact aH k o' hk aD e he hb
  refine ih _ _ _ (Ay vals i v) (by rw[Array.size_setIfInBounds];exact aB) ?_ aG (by rw[aF];exact hf.step H h2 v) (by rw[aF];exact aK);have aO:=O0 (fun j=>listed.getD j false) i aJ l.length;rw[if_pos aL]at aO;have aN:(ξ l.length).countP (fun j=> !(listed.setIfInBounds i true).getD j false)=(ξ l.length).countP (fun j=> !(Ay (fun j=>listed.getD j false) i true) j):=by
   congr 1
   funext j;rw[<-congrFun aF j]
  rw[aN];omega
theorem FU.in_{l:List Oper}{L:Nat->Bool}{vals:Nat->Value}{a:Act}(hf:FU l.toArray a0 L vals a)(k t:Nat){o:Oper}(hL:L k=true)(ho:l[k]?=some o)(hd:o.dst=some t):a.tmps[t]?=some (vals k):=
 hf.got k o t hL (by simpa using ho) hd
theorem FU.out_{l:List Oper}{L:Nat->Bool}{vals:Nat->Value}{a:Act}(hf:FU l.toArray a0 L vals a)(t:Nat)(hn:(l.all fun o=>o.dst !=some t)=true):a.tmps[t]?=a0.tmps[t]?:=
 hf.old t fun i o _ ho hd=>by
  have aA:l[i]?=some o:=by simpa using ho
  have:=υ.1 hn o (List.mem_of_getElem? aA);rw[hd]at this;simp at this
theorem zbC{P:Prop}(h:P:=by
 funext i;rw[Array.getD_eq_getD_getElem?];by_cases h:i<l.toArray.size
 .rw[Array.getElem?_replicate,if_pos h];rfl
 .rw[Array.getElem?_replicate,if_neg h];rfl):P:=h
theorem CD{id:Nat}{l:List Oper}{w:World}(J:(Nat->Bool)->(Nat->Value)->World->Prop)(hm:P.follows .mixedOrders=true)(hB:Mm a0.tmps.size l 0 []=true)(h0:J (fun _=>false) (fun _=>undef) w.drew)
  (hs:AH (SO P Q J l.toArray a0) l 0) (he:∀L vals w,(∀i,i<l.length->L i=true)->J L vals w->Q .normal (Cg l vals 0 a0) w):(Code.region id l.toArray true).wp P Q a0 w:=by
 refine wp_region_any hm ?_;have hL:(fun i=>(Array.replicate l.toArray.size false).getD i false)=fun _=>false:=by
  exact zbC
 refine Zp (rgn_ok hB) hs he _ _ _ _ (fun _=>undef) ag (Nat.le_trans List.countP_le_length ag) (fun k o' hk=>by have:=congrFun hL k;rw[this]at hk;cases hk) ?_ ?_
 .rw[hL];exact FU.init _ _ _
 .rw[hL];exact h0
theorem A9{a:Act}{t:Nat}{v:Value}(h:a.tmps[t]?=some v):a.eval (.tmp t)=v:=by
 show a.tmps.getD t undef=v
 rw[Array.getD_eq_getD_getElem?,h];rfl
theorem Ax{b:Bool}(h:¬b=true):b=false:=by cases b <;> simp_all
theorem BH{w:World}{o:Oper}{a:Act}{K:Act->World->Prop}(s x:Operand)(t:TypeId)
  (ho:o.op= .call { callee:= .builtin .append,args:= #[s,x],argTypes:= #[t,t] })
  (base:Nat) (e:TypeId) (z:Value) (size aA:Nat) (ht:P.underlying t=some (.slice e)) (hi:(P.info? e).map (fun i=>(i.zero,i.size,i.bytes))=some (some z,size,aA))
  (aE:z.cells.size=size) (aF:0<size) (v:Value) (n:Nat) (xs:List Value) (hs:a.eval s=v) (aD:w.ownsRow base e size v n xs)
  (xv:Value) (m:Nat) (news:List Value) (hx:a.eval x=xv) (aG:Sl w xv m size news) (h1:∀u∈news,u.oneCell'=true)
  (aH:n+m<=maxLen) (aB:(n+m)*aA<=140737488355328) (aC:base<=w.heap.size)
  (h:∀v' w',w'.ownsRow base e size v' (n+m) (xs++news)->w.grownBy w' v.ownBlock->(v'.ownBlock=v.ownBlock∨v'.ownBlock=some w.heap.size)->K (a.put o.dst v') w'):
  Oper.wp P o a w K Q:=by
 obtain⟨v',w',hr,h2,h3,h4⟩:=E6 (P:=P) w base t o.type e z size aA ht hi aE aF v n xs aD xv m news aG h1 aH aB aC;exact zbz
theorem Ez:∀(l:List Oper) (k:Nat) (V V':Nat->Value) (a:Act),(∀i o,l[i]?=some o->o.dst≠none->V (k+i)=V' (k+i))->Cg l V k a=Cg l V' k a
 | [],_,_,_,_,_=>rfl
 | o :: l,k,V,V',a,h=>by
  show Cg l V (k+1) (a.put o.dst (V k))=Cg l V' (k+1) (a.put o.dst (V' k))
  have e:a.put o.dst (V k)=a.put o.dst (V' k):=by
   cases hd:o.dst with
   | none=>rfl
   | some d=>rw[show V k=V' k from h 0 o rfl (by rw[hd];simp)]
  rw[e];exact Ez l (k+1) V V' _ fun i o' hi hd=>by
   rw[show k+1+i=k+(i+1) from ac];exact h (i+1) o' hi hd
def OpQ(P:Program)(Q:Exit->Act->World->Prop)(l:List Oper)(a0:Act)(pv:Nat->Value)(wr:World)(F:World->World)(m i:Nat)(o:Oper):Prop:=
 ∀(L:Nat->Bool) (a:Act) (n:Nat),(∀k t o',L k=true->l[k]?=some o'->o'.dst=some t->a.tmps[t]?=some (pv k))->(∀t,(l.all fun o=>o.dst !=some t)=true->a.tmps[t]?=a0.tmps[t]?)->(∀e∈o.after,ϊ .any e=true->L e.on=true)->
  ∀K:Act->World->Prop,(if i=m then K (a.put o.dst undef) (F (wr.drewN n)) else ∀n',K (a.put o.dst (pv i)) (wr.drewN n'))->o.wp P a (wr.drewN n) K Q
theorem zcB{P:Prop}(h:P:=by
 cases h:l[m]? with
 | none=>rw[h]at hl;cases hl
 | some om=>exact⟨om,rfl⟩):P:=h
theorem eu{P:Prop}(h:P:=by cases hd:om.dst with|none=>rfl|some d=>rw[hd]at aA;cases aA):P:=h
theorem NM{id:Nat}{l:List Oper}{w:World}(pv:Nat->Value)(F:World->World)(m:Nat)(hm:P.follows .mixedOrders=true)(hB:Mm a0.tmps.size l 0 []=true)
  (hl:(match l[m]? with|some om=>l.length==m+1&&om.dst.isNone&&(ξ m).all fun k=>om.after.any fun e=>e.on==k&&ϊ .any e|none=>false)=true)
  (hs:AH (OpQ P Q l a0 pv w F m) l 0) (he:∀n,Q .normal (Cg l pv 0 a0) (F (w.drewN n))):(Code.region id l.toArray true).wp P Q a0 w:=by
 obtain⟨om,aF⟩:∃om,l[m]?=some om:=by
  exact zcB
 rw[aF]at hl;simp only[Ξ,beq_iff_eq]at hl;obtain⟨⟨hlen,aA⟩,aG⟩:=hl;have aM:om.dst=none:=eu;have aE:∀k,k<m->∃e∈om.after,(e:Edge).on=k/\ϊ .any e=true:=fun k hk=>by
  have:=υ.1 aG k (κ.2 hk);rw[Array.any_eq_true']at this;obtain⟨e,he,h⟩:=this;rw[Ξ,beq_iff_eq]at h;exact⟨e,he,h.1,h.2⟩
 refine CD (fun L V w'=>(∀k,k≠m->L k=true->V k=pv k)/\(L m=false->∃n,w'=w.drewN n)/\(L m=true->∃n,w'=F (w.drewN n))) hm hB ⟨fun k _ h=>az,fun _=>⟨1,rfl⟩,fun h=>az⟩ ?_ ?_
 .have aI:∀(l':List Oper) (k0:Nat),(∀i o,l'[i]?=some o->l[k0+i]?=some o)->AH (OpQ P Q l a0 pv w F m) l' k0->AH (SO P Q (fun L V w'=>(∀k,k≠m->L k=true->V k=pv k)/\(L m=false->∃n,w'=w.drewN n)/\(L m=true->∃n,w'=F (w.drewN n))) l.toArray a0) l' k0:=fun l'=>by
   induction l' with
   | nil=>intro _ _ _;trivial
   | cons o l' ih=>
    intro k0 aD h;refine⟨?_,ih (k0+1) (fun i o' hi=>by rw[show k0+1+i=k0+(i+1) from ac];exact aD (i+1) o' hi) h.2⟩;intro L V a w' hf hj hi hd aO K hK;have aJ:l[k0]?=some o:=by have:=aD 0 o rfl;simpa using this
    have hk0:k0<l.length:=(θ.1 aJ).1;have aH:L m=false:=by
     by_cases e:k0=m
     .rw[<-e];exact hi
     .refine Ax fun hb=>?_;obtain⟨e2,h1,h2,h3⟩:=aE k0 ac;have:=aO m om hb (by simpa using aF) e2 h1 h3;rw[h2,hi]at this;cases this
    obtain⟨n,rfl⟩:=hj.2.1 aH;refine h.1 L a n (fun k t o' hk aK aN=>?_) (fun t ht=>hf.out_ t ht) hd K ?_
    .have aC:k≠m:=fun e=>by rw[e,aH]at hk;cases hk
     rw[<-hj.1 k aC hk];exact hf.in_ k t hk aK aN
    .by_cases e:k0=m
     .rw[if_pos e];refine hK undef _ ⟨fun k aC hk=>?_,fun h=>?_,fun _=>⟨n,rfl⟩⟩
      .rw[e]at hk ⊢;rw[Ac _ _ aC]at hk ⊢;exact hj.1 k aC hk
      .rw[e,Ab]at h;cases h
     .rw[if_neg e];intro n';refine hK (pv k0) _ ⟨fun k aC hk=>?_,fun _=>⟨n',rfl⟩,fun h=>?_⟩
      .by_cases e2:k=k0
       .rw[e2,Ab]
       .rw[Ac _ _ e2]at hk ⊢;exact hj.1 k aC hk
      .rw[Ac _ _ (fun e3=>e e3.symm),aH]at h;cases h
  exact aI l 0 (fun i o h=>by rw[ύ];exact h) hs
 .intro L V w' aB hj;obtain⟨n,rfl⟩:=hj.2.2 (aB m ac);have hp:Cg l V 0 a0=Cg l pv 0 a0:=Ez l 0 V pv a0 fun i o hi hd=>by
   rw[ύ];have aL:i<l.length:=(θ.1 hi).1;refine hj.1 i (fun e=>hd ?_) (aB i aL);rw[e,aF]at hi;injection hi with hi;rw[<-hi];exact aM
  rw[hp];exact he n
end
structure S0(w w':World)(base:Nat)(e:TypeId)(size:Nat)(v v':Value)(n:Nat)(xs news:List Value):Prop where
 own:w'.ownsRow base e size v' (n+1) (xs++news)
 gr:w.grownBy w' v.ownBlock
 at_:v'.ownBlock=v.ownBlock∨v'.ownBlock=some w.heap.size
 old:w.ownsRow base e size v n xs
section
variable {w w':World} {base:Nat} {e:TypeId} {size:Nat} {v v':Value} {n:Nat} {xs news:List Value}
theorem S0.ex(h:S0 w w' base e size v v' n xs news){a:World}(hx:Ex a w)(hb:a.heap.size<=base):Ex a w':=Ex.grown hx h.old hb h.gr
theorem S0.cell(h:S0 w w' base e size v v' n xs news){a:Addr}{u:Value}(hc:w.cell? a=some u)(aA:some a.block≠v.ownBlock):w'.cell? a=some u:=h.gr.cell hc aA
theorem S0.frz(h:S0 w w' base e size v v' n xs news){a:Addr}{u:Value}(hc:w.cell? a=some u)(hf:w.frozen? a=false)(aA:some a.block≠v.ownBlock):w'.frozen? a=false:=by
 have aB:=World.block_lt_of_cell? _ _ hc;rw[<-hf];have h2:=h.gr.block a.block aB aA;unfold World.frozen?;rw[h2]
theorem S0.row(h:S0 w w' base e size v v' n xs news){b2:Nat}{e2:TypeId}{s2:Nat}{v2:Value}{n2:Nat}{ys:List Value}(k:w.ownsRow b2 e2 s2 v2 n2 ys)(ha:AD v2 v):
  w'.ownsRow b2 e2 s2 v2 n2 ys/\AD v2 v':=by
 refine⟨k.kept h.gr ha,?_⟩;exact zc0
end
theorem S9{w:World}{B:Nat}{x:Value}{t:TypeId}(h:w.heap[B]?=some (.cells #[x] t)):Sl w (.slice (some (B,0)) 1 1) 1 1 [x]:=
 ⟨rfl,some ⟨B,0,none⟩,1,rfl,ζ _,by unfold maxLen;omega,fun _=>⟨B,0,rfl,fun j u hu=>by
  match j,hu with
  | 0,hu=>
   simp at hu;subst hu;rw[ύ,cell_of_row w B 0 #[x] t (0,0) h];rfl
  | j+1,hu=>simp at hu⟩⟩
section
variable {P:Program} {Q:Exit->Act->World->Prop} {a0:Act}
def IN(P:Program)(Q:Exit->Act->World->Prop)(l:List Oper)(a0:Act)(pv:Nat->Value)(wr:World)(ib ia fa m i:Nat)(o:Oper):Prop:=
 ∀(L:Nat->Bool) (a:Act) (w:World),(∀k t o',L k=true->k<m->k≠ib->k≠ia->l[k]?=some o'->o'.dst=some t->a.tmps[t]?=some (pv k))->(∀t,(l.all fun o=>o.dst !=some t)=true->a.tmps[t]?=a0.tmps[t]?)->(∀e∈o.after,ϊ .any e=true->L e.on=true)->
  ∀K:Act->World->Prop,
   if i=fa then(K (a.put o.dst (pv i)) w->o.wp P a w K Q)
   else if i=m∨i=ia then True
   else if i=ib then(Ex wr w->True)
   else Ex wr w->(∀w',Ex w w'->K (a.put o.dst (pv i)) w')->o.wp P a w K Q
def asChk(l:List Oper)(ib ia fa m:Nat):Bool:=
 l.length==m+1&&decide (ib<m)&&decide (ia<m)&&decide (fa<m)&&ib !=ia&&ia !=fa&&ib !=fa&&(match l[m]? with|some om=>om.dst.isNone&&(om.after.any fun e=>e.on==ia&&ϊ .any e)&&(om.after.any fun e=>e.on==fa&&ϊ .any e)|none=>false) &&
 (match l[ia]? with|some oa=>oa.after.any fun e=>e.on==ib&&ϊ .any e|none=>false) &&
 (ξ m).all fun k=>k==fa||k==ia||(ξ m).any fun k'=>decide (k<k')&&k' !=fa&&(match l[k']? with|some o=>o.after.any fun e=>e.on==k&&ϊ .any e|none=>false)
structure AsJ(pv:Nat->Value)(wr:World)(ib ia fa m:Nat)(u:Value)(T:TypeId)(A Fin:Value->World->Prop)(L:Nat->Bool)(V:Nat->Value)(w:World):Prop where
 vals:∀k,L k=true->k<m->k≠ib->k≠ia->V k=pv k
 ex:L ia=false->Ex wr w
 vb:L ib=true->∃B,V ib= .slice (some ⟨B,0,none⟩) 1 1/\(L ia=false->w.heap[B]?=some (.cells #[u] T))
 va:L ia=true->L m=false->A (V ia) w
 fin:L m=true->L ia=true/\Fin (V ia) w
theorem FA{l:Array Edge}{k:Nat}(h:(l.any fun e=>e.on==k&&ϊ .any e)=true):∃e∈l,e.on=k/\ϊ .any e=true:=by
 rw[Array.any_eq_true']at h;obtain⟨e,he,h⟩:=h;rw[Ξ,beq_iff_eq]at h;exact⟨e,he,h.1,h.2⟩
theorem zcp{P:Prop}(h:P:=by
 have aA:B<w.heap.size:=(Array.getElem?_eq_some_iff.1 hb).1;rw[h.block B aA];exact hb):P:=h
theorem Xw{w w':World}{B:Nat}{o:Obj}(h:Ex w w')(hb:w.heap[B]?=some o):w'.heap[B]?=some o:=by
 exact zcp
theorem zaR{P:Prop}(h:P:=by
 by_cases e2:k=k0
 .rw[e2,Ab]
 .rw[Ac _ _ e2]at hk ⊢;exact hj.vals k hk a1 a2 a3):P:=h
theorem zaZ{P:Prop}(h:P:=by
 rw[Ac _ _ (by omega)]at hk ⊢;exact hj.vals k hk a1 a2 a3):P:=h
theorem zba{P:Prop}(h:P:=by
 rw[Ac _ _ (by omega),aV]at h2;cases h2):P:=h
theorem FH{id:Nat}{l:List Oper}{w:World}(pv:Nat->Value)(ib ia fa m:Nat)(u:Value)(T:TypeId)(A Fin:Value->World->Prop)(hm:P.follows .mixedOrders=true)(hB:Mm a0.tmps.size l 0 []=true)(hl:asChk l ib ia fa m=true)
  (hs:AH (IN P Q l a0 pv w ib ia fa m) l 0)
  (hb:∀(o:Oper) (a:Act) (w1:World) (K:Act->World->Prop),l[ib]?=some o->Ex w w1->(∀k t o',(o.after.any fun e=>e.on==k&&ϊ .any e)=true->k<m->k≠ib->k≠ia->l[k]?=some o'->o'.dst=some t->a.tmps[t]?=some (pv k))->K (a.put o.dst (.slice (some (w1.heap.size,0)) 1 1)) (w1.alloc (.cells #[u] T))->o.wp P a w1 K Q)
  (ha:∀(o ob:Oper) (a:Act) (w1:World) (B:Nat) (K:Act->World->Prop),l[ia]?=some o->l[ib]?=some ob->Ex w w1->(∀t,ob.dst=some t->a.tmps[t]?=some (.slice (some (B,0)) 1 1))->w1.heap[B]?=some (.cells #[u] T)->(∀k t o',(o.after.any fun e=>e.on==k&&ϊ .any e)=true->k<m->k≠ib->k≠ia->l[k]?=some o'->o'.dst=some t->a.tmps[t]?=some (pv k))->(∀v w2,A v w2->K (a.put o.dst v) w2)->o.wp P a w1 K Q)
  (BF:∀(o oa of:Oper) (a:Act) (w1:World) (v:Value) (K:Act->World->Prop),l[m]?=some o->l[ia]?=some oa->l[fa]?=some of->A v w1->(∀t,oa.dst=some t->a.tmps[t]?=some v)->(∀t,of.dst=some t->a.tmps[t]?=some (pv fa))->(∀w2,Fin v w2->K (a.put o.dst undef) w2)->o.wp P a w1 K Q)
  (aY:Nat->Value->Nat->Value) (bN:∀B v,(ξ m).map (aY B v)=(ξ m).map (Ay (Ay pv ib (.slice (some ⟨B,0,none⟩) 1 1)) ia v))
  (he:∀(B:Nat) (v:Value) (w1:World),Fin v w1->Q .normal (Cg l (aY B v) 0 a0) w1):(Code.region id l.toArray true).wp P Q a0 w:=by
 unfold asChk at hl;simp only[Ξ,beq_iff_eq,decide_eq_true_eq,bne_iff_ne,ne_eq]at hl;obtain⟨⟨⟨⟨⟨⟨⟨⟨⟨hlen,hibm⟩,hiam⟩,hfam⟩,hba⟩,haf⟩,hbf⟩,aL⟩,bH⟩,aJ⟩:=hl;obtain⟨om,aB⟩:∃om,l[m]?=some om:=by
  cases h:l[m]? with
  | none=>rw[h]at aL;cases aL
  | some om=>exact⟨om,rfl⟩
 rw[aB]at aL;simp only[Ξ]at aL;obtain⟨⟨aF,bS⟩,bR⟩:=aL;have bT:om.dst=none:=by cases hd:om.dst with|none=>rfl|some d=>rw[hd]at aF;cases aF
 obtain⟨ea,aT,aS,aR⟩:=FA bS;obtain⟨ef,aQ,aP,aO⟩:=FA bR;obtain⟨oa,aC⟩:∃oa,l[ia]?=some oa:=⟨_,γ ac⟩;obtain⟨ob,aE⟩:∃ob,l[ib]?=some ob:=⟨_,γ ac⟩;obtain⟨of,aM⟩:∃of,l[fa]?=some of:=⟨_,γ ac⟩;rw[aC]at bH;obtain⟨eb,bD,bC,bB⟩:=FA bH;have bF:∀(L:Nat->Bool),(∀(k:Nat) (o':Oper),L k=true->l.toArray[k]?=some o'->∀e∈o'.after,ϊ .any e=true->L e.on=true)->L ia=true->∀d k,m-k<=d->k<m->k≠fa->L k=true:=fun L aU aG d=>by
  induction d with
  | zero=>intro k h1 h2;omega
  | succ d ih=>
   intro k h1 h2 h3;by_cases e:k=ia
   .rw[e];exact aG
   .have:=υ.1 aJ k (κ.2 h2);simp only[Bool.or_eq_true,beq_iff_eq]at this;rcases this with (h|h)|h
    .exact absurd h h3
    .exact absurd h e
    .obtain⟨k',bO,h⟩:=List.any_eq_true.1 h;simp only[Ξ,decide_eq_true_eq,bne_iff_ne,ne_eq]at h;obtain⟨⟨h4,h5⟩,h6⟩:=h;have aZ:=κ.1 bO;have bU:=ih k' ac aZ h5;obtain⟨o',aI⟩:∃o',l[k']?=some o':=⟨_,γ ac⟩;rw[aI]at h6;obtain⟨e1,g1,g2,g3⟩:=FA h6;have:=aU k' o' bU (by simpa using aI) e1 g1 g3;rw[g2]at this;exact this
 refine CD (AsJ pv w ib ia fa m u T A Fin) hm hB ⟨fun k h=>az,fun _=>(Ex.refl w).drew,fun h=>az,fun h=>az,fun h=>az⟩ ?_ ?_
 .have bK:∀(l':List Oper) (k0:Nat),(∀i o,l'[i]?=some o->l[k0+i]?=some o)->AH (IN P Q l a0 pv w ib ia fa m) l' k0->AH (SO P Q (AsJ pv w ib ia fa m u T A Fin) l.toArray a0) l' k0:=fun l'=>by
   induction l' with
   | nil=>intro _ _ _;trivial
   | cons o l' ih=>
    intro k0 aK h;refine⟨?_,ih (k0+1) (fun i o' hi=>by rw[show k0+1+i=k0+(i+1) from ac];exact aK (i+1) o' hi) h.2⟩;intro L V a w' hf hj hi hd aU K hK;have aA:l[k0]?=some o:=by have:=aK 0 o rfl;simpa using this
    have hk0:k0<l.length:=(θ.1 aA).1;have bA:∀k t o',L k=true->k<m->k≠ib->k≠ia->l[k]?=some o'->o'.dst=some t->a.tmps[t]?=some (pv k):=fun k t o' hk h1 h2 h3 aI bE=>by
     rw[<-hj.vals k hk h1 h2 h3];exact hf.in_ k t hk aI bE
    have aD:∀k t o',(o.after.any fun e=>e.on==k&&ϊ .any e)=true->k<m->k≠ib->k≠ia->l[k]?=some o'->o'.dst=some t->a.tmps[t]?=some (pv k):=fun k t o' hk h1 h2 h3 aI bE=>by
     obtain⟨e,g1,g2,g3⟩:=FA hk;exact bA k t o' (by have:=hd e g1 g3;rw[g2]at this;exact this) h1 h2 h3 aI bE
    have aW:k0≠fa->k0≠m->L ia=false:=fun h1 h2=>Ax fun hb=>by
     have:=bF L aU hb _ k0 (ζ _) ac h1;rw[hi]at this;cases this
    have aV:L m=false:=by
     by_cases e:k0=m
     .rw[<-e];exact hi
     .refine Ax fun hb=>?_;by_cases e2:k0=fa
      .have:=aU m om hb (by simpa using aB) ef aQ aO;rw[aP,<-e2,hi]at this;cases this
      .have:=aU m om hb (by simpa using aB) ea aT aR;rw[aS,aW e2 e]at this;cases this
    have h1:=h.1 L a w' bA (fun t ht=>hf.out_ t ht) hd K;by_cases e1:k0=fa
    .rw[if_pos e1]at h1;refine h1 (hK (pv k0) _ ⟨fun k hk a1 a2 a3=>?_,fun hh=>?_,fun hh=>?_,fun h2 h3=>?_,fun h2=>?_⟩)
     .exact zaR
     .rw[Ac _ _ ac]at hh;exact hj.ex hh
     .rw[Ac _ _ ac]at hh ⊢;obtain⟨B,g1,g2⟩:=hj.vb hh;exact⟨B,g1,fun g3=>g2 (by rw[Ac _ _ ac]at g3;exact g3)⟩
     .rw[Ac _ _ ac]at h2 h3 ⊢;exact hj.va h2 h3
     .exact zba
    .rw[if_neg e1]at h1;by_cases e2:k0=m
     .rw[e2,aB]at aA;injection aA with aA;have aG:L ia=true:=by
       have:=hd ea (by rw[<-aA];exact aT) aR;rw[aS]at this;exact this
      have bQ:L fa=true:=by
       have:=hd ef (by rw[<-aA];exact aQ) aO;rw[aP]at this;exact this
      rw[<-aA];refine BF om oa of a w' (V ia) K aB aC aM (hj.va aG aV) (fun t ht=>hf.in_ ia t aG aC ht) (fun t ht=>bA fa t of bQ ac ac ac aM ht) fun w2 bL=>?_;rw[aA];refine hK undef _ ⟨fun k hk a1 a2 a3=>?_,fun hh=>?_,fun hh=>?_,fun h2 h3=>?_,fun h2=>?_⟩
      .exact zaZ
      .rw[Ac _ _ ac,aG]at hh;cases hh
      .rw[Ac _ _ ac]at hh ⊢;obtain⟨B,g1,g2⟩:=hj.vb hh;exact⟨B,g1,fun g3=>by rw[Ac _ _ ac,aG]at g3;cases g3⟩
      .rw[e2,Ab]at h3;cases h3
      .rw[Ac _ _ ac,Ac _ _ ac];exact⟨aG,bL⟩
     .have aX:=aW e1 e2;have aN:=hj.ex aX;by_cases e3:k0=ia
      .rw[e3,aC]at aA;injection aA with aA;have bJ:L ib=true:=by
        have:=hd eb (by rw[<-aA];exact bD) bB;rw[bC]at this;exact this
       obtain⟨B,g1,g2⟩:=hj.vb bJ;rw[<-aA];rw[<-aA]at aD;refine ha oa ob a w' B K aC aE aN (fun t ht=>by rw[<-g1];exact hf.in_ ib t bJ aE ht) (g2 aX) aD fun v w2 hA=>?_;rw[aA];refine hK v _ ⟨fun k hk a1 a2 a3=>?_,fun hh=>?_,fun hh=>?_,fun h2 h3=>?_,fun h2=>?_⟩
       .exact zaZ
       .rw[e3,Ab]at hh;cases hh
       .rw[Ac _ _ ac];exact⟨B,g1,fun g3=>by rw[e3,Ab]at g3;cases g3⟩
       .rw[e3,Ab];exact hA
       .exact zba
      .by_cases e4:k0=ib
       .rw[e4,aE]at aA;injection aA with aA;rw[<-aA]at aD;rw[<-aA];refine hb ob a w' K aE aN aD ?_;rw[aA];refine hK (.slice (some (w'.heap.size,0)) 1 1) _ ⟨fun k hk a1 a2 a3=>?_,fun hh=>?_,fun hh=>?_,fun h2 h3=>?_,fun h2=>?_⟩
        .exact zaZ
        .exact aN.alloc _
        .rw[e4,Ab];exact⟨_,rfl,fun _=>by show(w'.heap.push _)[w'.heap.size]?=_;rw[Array.getElem?_push_size]⟩
        .rw[Ac _ _ ac,aX]at h2;cases h2
        .exact zba
       .rw[if_neg ac,if_neg e4]at h1;refine h1 aN fun w2 bG=>hK (pv k0) _ ⟨fun k hk a1 a2 a3=>?_,fun hh=>?_,fun hh=>?_,fun h2 h3=>?_,fun h2=>?_⟩
        .exact zaR
        .exact aN.trans bG
        .rw[Ac _ _ ac]at hh ⊢;obtain⟨B,g1,g2⟩:=hj.vb hh;exact⟨B,g1,fun g3=>Xw bG (g2 aX)⟩
        .rw[Ac _ _ ac,aX]at h2;cases h2
        .exact zba
  exact bK l 0 (fun i o h=>by rw[ύ];exact h) hs
 .intro L V w' aH hj;obtain⟨aG,hF⟩:=hj.fin (aH m ac);obtain⟨B,bV,-⟩:=hj.vb (aH ib ac);have bM:∀i,i<m->aY B (V ia) i=Ay (Ay pv ib (.slice (some (B,0)) 1 1)) ia (V ia) i:=fun i hi=>by
   have:=congrArg (fun L=>L[i]?) (bN B (V ia));simpa[hi]using this
  have hp:Cg l V 0 a0=Cg l (aY B (V ia)) 0 a0:=Ez l 0 V _ a0 fun i o hi hd=>by
   rw[ύ];have bP:i<l.length:=(θ.1 hi).1;have bI:i<m:=by
    refine μc ac fun e=>hd ?_;rw[e,aB]at hi;injection hi with hi;rw[<-hi];exact bT
   rw[bM i bI];by_cases e1:i=ia
   .rw[e1,Ab]
   .rw[Ac _ _ e1];by_cases e2:i=ib
    .rw[e2,Ab];exact bV
    .rw[Ac _ _ e2];by_cases e3:i=m
     .omega
     .exact hj.vals i (aH i bP) bI e2 e1
  rw[hp];exact he B (V ia) w' hF
def IL(P:Program)(Q:Exit->Act->World->Prop)(l:List Oper)(a0:Act)(pv:Nat->Value)(wr:World)(A Fin:Value->World->Prop)(ia m i:Nat)(o:Oper):Prop:=
 ∀(L:Nat->Bool) (a:Act) (w:World),(∀k t o',L k=true->k<m->k≠ia->l[k]?=some o'->o'.dst=some t->a.tmps[t]?=some (pv k))->(∀t,(l.all fun o=>o.dst !=some t)=true->a.tmps[t]?=a0.tmps[t]?)->(∀e∈o.after,ϊ .any e=true->L e.on=true)->Ex wr w->
  ∀K:Act->World->Prop,
   if i=ia then(∀v w',Ex w w'->A v w'->K (a.put o.dst v) w')->o.wp P a w K Q
   else if i=m then ∀v,A v w->(∀t oa,l[ia]?=some oa->oa.dst=some t->a.tmps[t]?=some v)->(∀w',Fin v w'->K (a.put o.dst undef) w')->o.wp P a w K Q
   else(∀w',Ex w w'->K (a.put o.dst (pv i)) w')->o.wp P a w K Q
def XF(l:List Oper)(ia m:Nat):Bool:=
 match l[m]? with|some om=>l.length==m+1&&decide (ia<m)&&om.dst.isNone&&(ξ m).all fun k=>om.after.any fun e=>e.on==k&&ϊ .any e|none=>false
structure FsJ(pv:Nat->Value)(wr:World)(ia m:Nat)(A Fin:Value->World->Prop)(L:Nat->Bool)(V:Nat->Value)(w:World):Prop where
 vals:∀k,L k=true->k<m->k≠ia->V k=pv k
 ex:L m=false->Ex wr w
 va:L ia=true->L m=false->A (V ia) w
 fin:L m=true->Fin (V ia) w
theorem Ib{id:Nat}{l:List Oper}{w:World}(pv:Nat->Value)(ia m:Nat)(A Fin:Value->World->Prop)(hA:∀v w1 w2,A v w1->Ex w1 w2->A v w2)(hm:P.follows .mixedOrders=true)(hB:Mm a0.tmps.size l 0 []=true)(hl:XF l ia m=true)
  (hs:AH (IL P Q l a0 pv w A Fin ia m) l 0) (aF:Value->Nat->Value) (aR:∀v,(ξ m).map (aF v)=(ξ m).map (Ay pv ia v))
  (he:∀(v:Value) (w1:World),Fin v w1->Q .normal (Cg l (aF v) 0 a0) w1):(Code.region id l.toArray true).wp P Q a0 w:=by
 obtain⟨om,aH⟩:∃om,l[m]?=some om:=by
  unfold XF at hl;exact zcB
 unfold XF at hl;rw[aH]at hl;simp only[Ξ,beq_iff_eq,decide_eq_true_eq]at hl;obtain⟨⟨⟨hlen,aJ⟩,aA⟩,aL⟩:=hl;have aW:om.dst=none:=eu;have aB:∀k,k<m->∃e∈om.after,(e:Edge).on=k/\ϊ .any e=true:=fun k hk=>FA (υ.1 aL k (κ.2 hk));refine CD (FsJ pv w ia m A Fin) hm hB ⟨fun k h=>az,fun _=>(Ex.refl w).drew,fun h=>az,fun h=>az⟩ ?_ ?_
 .have aO:∀(l':List Oper) (k0:Nat),(∀i o,l'[i]?=some o->l[k0+i]?=some o)->AH (IL P Q l a0 pv w A Fin ia m) l' k0->AH (SO P Q (FsJ pv w ia m A Fin) l.toArray a0) l' k0:=fun l'=>by
   induction l' with
   | nil=>intro _ _ _;trivial
   | cons o l' ih=>
    intro k0 aD h;refine⟨?_,ih (k0+1) (fun i o' hi=>by rw[show k0+1+i=k0+(i+1) from ac];exact aD (i+1) o' hi) h.2⟩;intro L V a w' hf hj hi hd aY K hK;have aE:l[k0]?=some o:=by have:=aD 0 o rfl;simpa using this
    have hk0:k0<l.length:=(θ.1 aE).1;have aI:L m=false:=by
     by_cases e:k0=m
     .rw[<-e];exact hi
     .refine Ax fun hb=>?_;obtain⟨e2,h1,h2,h3⟩:=aB k0 ac;have:=aY m om hb (by simpa using aH) e2 h1 h3;rw[h2,hi]at this;cases this
    have aK:=hj.ex aI;have h1:=h.1 L a w' (fun k t o' hk h1 h2 aU aX=>by rw[<-hj.vals k hk h1 h2];exact hf.in_ k t hk aU aX) (fun t ht=>hf.out_ t ht) hd aK K;by_cases e1:k0=ia
    .rw[if_pos e1]at h1;refine h1 fun v w2 aG aZ=>hK v _ ⟨fun k hk a1 a2=>?_,fun hh=>aK.trans aG,fun h2 h3=>?_,fun h2=>?_⟩
     .rw[Ac _ _ ac]at hk ⊢;exact hj.vals k hk a1 a2
     .rw[e1,Ab];exact aZ
     .rw[Ac _ _ ac,aI]at h2;cases h2
    .rw[if_neg e1]at h1;by_cases e2:k0=m
     .rw[if_pos e2]at h1;have aN:L ia=true:=by
       obtain⟨e3,g1,g2,g3⟩:=aB ia aJ;have aS:o=om:=by rw[e2,aH]at aE;injection aE with aE;exact aE.symm
       have:=hd e3 (by rw[aS];exact g1) g3;rw[g2]at this;exact this
      refine h1 (V ia) (hj.va aN aI) (fun t oa aT ht=>hf.in_ ia t aN aT ht) fun w2 aP=>hK undef _ ⟨fun k hk a1 a2=>?_,fun hh=>?_,fun h2 h3=>?_,fun h2=>?_⟩
      .rw[Ac _ _ ac]at hk ⊢;exact hj.vals k hk a1 a2
      .rw[e2,Ab]at hh;cases hh
      .rw[e2,Ab]at h3;cases h3
      .rw[Ac _ _ ac];exact aP
     .rw[if_neg e2]at h1;refine h1 fun w2 aG=>hK (pv k0) _ ⟨fun k hk a1 a2=>?_,fun hh=>aK.trans aG,fun h2 h3=>?_,fun h2=>?_⟩
      .by_cases e3:k=k0
       .rw[e3,Ab]
       .rw[Ac _ _ e3]at hk ⊢;exact hj.vals k hk a1 a2
      .rw[Ac _ _ ac]at h2 h3 ⊢;exact hA _ _ _ (hj.va h2 h3) aG
      .rw[Ac _ _ ac,aI]at h2;cases h2
  exact aO l 0 (fun i o h=>by rw[ύ];exact h) hs
 .intro L V w' aC hj;have hF:=hj.fin (aC m ac);have aQ:∀i,i<m->aF (V ia) i=Ay pv ia (V ia) i:=fun i hi=>by
   have:=congrArg (fun L=>L[i]?) (aR (V ia));simpa[hi]using this
  have hp:Cg l V 0 a0=Cg l (aF (V ia)) 0 a0:=Ez l 0 V _ a0 fun i o hi hd=>by
   rw[ύ];have aV:i<l.length:=(θ.1 hi).1;have aM:i<m:=by
    refine μc ac fun e=>hd ?_;rw[e,aH]at hi;injection hi with hi;rw[<-hi];exact aW
   rw[aQ i aM];by_cases e1:i=ia
   .rw[e1,Ab]
   .rw[Ac _ _ e1];exact hj.vals i (aC i aV) aM e1
  rw[hp];exact he (V ia) w' hF
end
end Go.Proofs.YtehieobniamagaaGreat
