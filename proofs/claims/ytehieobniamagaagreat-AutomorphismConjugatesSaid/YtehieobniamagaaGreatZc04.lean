/- As XRgn, for regions with guarded operations: an operation that is not wanted lays undef. -/
import Derived.Test.YtehieobniamagaaGreatZc03
namespace Go.Proofs.YtehieobniamagaaGreat
open Go.RowKit
set_option linter.all false
def Rq(n:Nat):List Oper->Nat->List Nat->Bool
 | [],_,_=>true
 | o :: l,k,seen=>(o.after.all fun e=> !Region.binds .any e||decide (e.on<k))&&(match o.dst with
  | none=>Rq n l (k+1) seen
  | some d=>decide (d<n) && !seen.contains d&&Rq n l (k+1) (d :: seen))
structure Uj(ops:Array Oper)(n:Nat):Prop where
 wait:∀(i:Nat) (o:Oper),ops[i]?=some o->∀e∈o.after,Region.binds .any e=true->(e:Edge).on<i
 lt:∀(i:Nat) (o:Oper) (d:Nat),ops[i]?=some o->o.dst=some d->d<n
 inj:∀(i j:Nat) (oi oj:Oper) (d:Nat),ops[i]?=some oi->ops[j]?=some oj->oi.dst=some d->oj.dst=some d->i=j
theorem Jf(n:Nat):∀(l:List Oper) (k:Nat) (aA:List Nat),Rq n l k aA=true->∀(i:Nat) (o:Oper),l[i]?=some o->
  (∀e∈o.after,Region.binds .any e=true->e.on<k+i)/\∀d,o.dst=some d->d<n/\d ∉ aA/\∀j oj,j<i->l[j]?=some oj->oj.dst≠some d
 | [],_,_,_,i,o,h=>by simp at h
 | o :: l,k,aA,h,i,o',hi=>by
  unfold Rq at h;rw[Bool.and_eq_true]at h;obtain⟨h2,h3⟩:=h
  cases i with
  | zero=>
   simp at hi;subst hi;refine⟨fun e he hb=>?_,fun d hd=>?_⟩
   .rw[Array.all_eq_true_iff_forall_mem]at h2;have:=h2 e he;rw[hb]at this;simpa using this
   .exact zay
  | succ i=>
   simp at hi
   cases hdo:o.dst with
   | none=>
    rw[hdo]at h3;obtain⟨b,c⟩:=Jf n l (k+1) aA h3 i o' hi;refine⟨fun e he hb=>by have:=b e he hb;omega,fun d hd=>?_⟩;exact zbt
   | some d0=>
    rw[hdo]at h3;simp only[Bool.and_eq_true]at h3;obtain⟨b,c⟩:=Jf n l (k+1) (d0 :: aA) h3.2 i o' hi;refine⟨fun e he hb=>by have:=b e he hb;omega,fun d hd=>?_⟩;exact zbc
theorem rgn_ow{l:List Oper}{n:Nat}(h:Rq n l 0 []=true):Uj l.toArray n:=by
 have aA:=Jf n l 0 [] h;have hg:∀(i:Nat) o,l.toArray[i]?=some o->l[i]?=some o:=fun i o h=>ay;refine⟨fun i o ho e he hb=>by have:=(aA i o (hg i o ho)).1 e he hb;omega,fun i o d ho hd=>((aA i o (hg i o ho)).2 d hd).1,fun i j oi oj d hi hj h1 h2=>?_⟩;rcases Nat.lt_trichotomy i j with e|e|e
 .exact absurd h1 (((aA j oj (hg j oj hj)).2 d h2).2.2 i oi e (hg i oi hi))
 .exact e
 .exact absurd h2 (((aA i oi (hg i oi hi)).2 d h1).2.2 j oj e (hg j oj hj))
section
variable {ops:Array Oper} {a0 a a':Act} {L L':Nat->Bool} {vals:Nat->Value}
theorem Ge.stepW(H:Uj ops a0.tmps.size)(h:Ge ops a0 L vals a){i:Nat}{o:Oper}(ho:ops[i]?=some o)(v:Value):Ge ops a0 (Ay L i true) (Ay vals i v) (a.put o.dst v):=by
 exact za9
end
theorem Ge.putKW{l0:List Oper}{a0:Act}(H:Uj l0.toArray a0.tmps.size)(vals:Nat->Value):∀(l aA:List Oper) (a:Act),aA++l=l0->Ge l0.toArray a0 (fun i=>decide (i<aA.length)) vals a->Ge l0.toArray a0 (fun i=>decide (i<l0.length)) vals (Go.Proofs.YtehieobniamagaaGreat.Cm l vals aA.length a)
 | [],aA,a,he,h=>by
  rw[List.append_nil]at he;subst he;exact h
 | o :: l,aA,a,he,h=>by
  have ho:l0.toArray[aA.length]?=some o:=by rw[<-he];simp
  have h1:=h.stepW H ho (vals aA.length);have e1:Ay (fun i=>decide (i<aA.length)) aA.length true=fun i=>decide (i<(aA ++ [o]).length):=by
   exact zcn
  have e2:Ay vals aA.length (vals aA.length)=vals:=by
   funext i;by_cases e:i=aA.length
   .subst e;rw[Ab]
   .rw[Ae _ _ e]
  rw[e1,e2]at h1;have h2:=Ge.putKW H vals l (aA ++ [o]) (a.put o.dst (vals aA.length)) (by rw[<-he];simp) h1;rw[List.length_append]at h2;exact h2
section
variable {P:Program} {Q:Exit->Act->World->Prop} {J:(Nat->Bool)->(Nat->Value)->World->Prop} {a0:Act}
def OpSw(P:Program)(Q:Exit->Act->World->Prop)(J:(Nat->Bool)->(Nat->Value)->World->Prop)(ops:Array Oper)(a0:Act)(i:Nat)(o:Oper):Prop:=
 ∀L vals a w,Ge ops a0 L vals a->J L vals w->L i=false->(∀e∈o.after,Region.binds .any e=true->L e.on=true)->(∀(k:Nat) (o':Oper),L k=true->ops[k]?=some o'->∀e∈o'.after,Region.binds .any e=true->L e.on=true)->
  ∀K:Act->World->Prop,(∀v w',J (Ay L i true) (Ay vals i v) w'->K (a.put o.dst v) w')->if Region.wanted o (yielded ops a.tmps)=true then o.wp P a w K Q else K (a.put o.dst undef) w
theorem V8{l:List Oper}(H:Uj l.toArray a0.tmps.size)(hs:AG (OpSw P Q J l.toArray a0) l 0)
  (he:∀L vals w,(∀i,i<l.length->L i=true)->J L vals w->Q .normal (Cm l vals 0 a0) w):
  ∀fuel (listed:Array Bool) a w vals,listed.size=l.length->(List.range l.length).countP (fun i=> !listed.getD i false)<=fuel->(∀(k:Nat) (o':Oper),listed.getD k false=true->l.toArray[k]?=some o'->∀e∈o'.after,Region.binds .any e=true->listed.getD e.on false=true)->Ge l.toArray a0 (fun i=>listed.getD i false) vals a->J (fun i=>listed.getD i false) vals w->wpAny P .any l.toArray Q fuel listed a w:=by
 have aG:∀(listed:Array Bool) a w vals,listed.size=l.length->(∀i,i<l.length->listed.getD i false=true)->Ge l.toArray a0 (fun i=>listed.getD i false) vals a->J (fun i=>listed.getD i false) vals w->Q .normal a w:=fun listed a w vals aC aB hf hj=>by
  have h1:=he _ vals w aB hj;have h2:=Ge.putKW H vals l [] a0 rfl ((Ge.init l.toArray a0 vals).congr fun i hi=>ag);have h3:=hf.uniq (h2.congr fun i hi=>by
   have aK:i<l.length:=by simpa using hi
   simp only[aK,decide_true];exact(aB i aK).symm)
  rw[h3];exact h1
 have aB:∀(listed:Array Bool),listed.size=l.length->Region.ready .any l.toArray listed= []->∀i,i<l.length->listed.getD i false=true:=fun listed aC hr i=>by
  induction i using Nat.strongRecOn with
  | ind i ih=>
   intro hi
   cases hb:listed.getD i false with
   | true=>rfl
   | false=>
    exfalso;have ho:l.toArray[i]?=some l[i]:=by simp[hi]
    have hm:i∈Region.ready .any l.toArray listed:=mem_ready.2 ⟨by
     have aD:i<listed.size:=ac;simp[Array.getD,aD]at hb ⊢;exact hb,l[i],ho,fun e aO hb=>by
     have hw:=H.wait i _ ho e aO hb;exact ih e.on hw ac⟩
    rw[hr]at hm;cases hm
 intro fuel
 induction fuel with
 | zero=>
  intro listed a w vals aC hc aJ hf hj;have ha:∀i,i<l.length->listed.getD i false=true:=fun i hi=>by
   exact zbx
  refine⟨?_,aG listed a w vals aC ha hf hj⟩
  cases hr:Region.ready .any l.toArray listed with
  | nil=>rfl
  | cons x t=>
   exfalso;have hm:x∈Region.ready .any l.toArray listed:=by rw[hr];exact List.mem_cons_self ..
   obtain⟨h1,o,h2,_⟩:=mem_ready.1 hm;have hx:x<l.length:=bn;have h3:=ha x hx;have aD:x<listed.size:=ac;simp[Array.getD,aD]at h1 h3;rw[h1]at h3;cases h3
 | succ fuel ih=>
  intro listed a w vals aC hc aJ hf hj;refine⟨fun hr=>aG listed a w vals aC (aB listed aC hr) hf hj,fun i hi=>?_⟩;obtain⟨h1,o,h2,h3⟩:=mem_ready.1 hi;have aN:i<l.length:=bn;have aD:i<listed.size:=ac;have aL:listed.getD i false=false:=by
   simp[Array.getD,aD]at h1 ⊢;exact h1
  have aR:l[i]?=some o:=dw;have BC:OpSw P Q J l.toArray a0 (0+i) o:=hs.get aR;rw[Nat.zero_add]at BC;have aH:(fun j=>(listed.setIfInBounds i true).getD j false)=Ay (fun j=>listed.getD j false) i true:=by
   funext j;by_cases e:j=i
   .subst e;rw[Ab];simp[Array.getD,aD]
   .exact zaA
  have aI:∀(k:Nat) (o':Oper),(listed.setIfInBounds i true).getD k false=true->l.toArray[k]?=some o'->∀e∈o'.after,Region.binds .any e=true->(listed.setIfInBounds i true).getD e.on false=true:=fun k o' hk aE e he hb=>by
   have e1:=congrFun aH k;have e2:=congrFun aH e.on;rw[e1]at hk;rw[e2];by_cases h0:e.on=i
   .rw[h0,Ab]
   .rw[Ae _ _ h0];by_cases h4:k=i
    .subst h4;rw[h2]at aE;injection aE with aE;subst aE;exact h3 e he hb
    .rw[Ae _ _ h4]at hk;exact aJ k o' hk aE e he hb
  have aF:∀v w',J (Ay (fun j=>listed.getD j false) i true) (Ay vals i v) w'->wpAny P .any l.toArray Q fuel (listed.setIfInBounds i true) (a.put o.dst v) w':=fun v w' aM=>by
   refine ih _ _ _ (Ay vals i v) (by rw[Array.size_setIfInBounds];exact aC) ?_ aI (by rw[aH];exact hf.stepW H h2 v) (by rw[aH];exact aM);have aQ:=O5 (fun j=>listed.getD j false) i aL l.length;rw[if_pos aN]at aQ;have aP:(List.range l.length).countP (fun j=> !(listed.setIfInBounds i true).getD j false)=(List.range l.length).countP (fun j=> !(Ay (fun j=>listed.getD j false) i true) j):=by
    congr 1
    funext j;rw[<-congrFun aH j]
   rw[aP];omega
  have aA:=BC _ vals a w hf hj aL (fun e he hb=>h3 e he hb) aJ _ aF;unfold wpOp;rw[h2];by_cases hw:Region.wanted o (yielded l.toArray a.tmps)=true
  .rw[if_pos hw]at aA;simp only[hw,if_true];exact .inl aA
  .rw[if_neg hw]at aA;simp only[hw];exact aA
theorem KC{id:Nat}{l:List Oper}{w:World}(J:(Nat->Bool)->(Nat->Value)->World->Prop)(hm:P.follows .mixedOrders=true)(hB:Rq a0.tmps.size l 0 []=true)(h0:J (fun _=>false) (fun _=>undef) w.drew)
  (hs:AG (OpSw P Q J l.toArray a0) l 0) (he:∀L vals w,(∀i,i<l.length->L i=true)->J L vals w->Q .normal (Cm l vals 0 a0) w):(Code.region id l.toArray true).wp P Q a0 w:=by
 refine wp_region_any hm ?_;have hL:(fun i=>(Array.replicate l.toArray.size false).getD i false)=fun _=>false:=by
  exact zbu
 refine V8 (rgn_ow hB) hs he _ _ _ _ (fun _=>undef) ag (Nat.le_trans List.countP_le_length ag) (fun k o' hk=>by have:=congrFun hL k;rw[this]at hk;cases hk) ?_ ?_
 .rw[hL];exact Ge.init _ _ _
 .rw[hL];exact h0
def Ir(l:List Oper)(pv:Nat->Value)(o:Oper):Bool:=match o.guard with
 | none=>true
 | some (j,want)=>match (l[j]?).bind (·.dst) with
  | none=>false
  | some _=>match pv j with
   | .bool b=>b==want
   | _=>false
def grdK(l:List Oper):Bool:=l.all fun o=>match o.guard with
 | none=>true
 | some (j,_)=>o.after.any fun e=>e.on==j&&Region.binds .any e
theorem VD{l:List Oper}{L:Nat->Bool}{pv vals:Nat->Value}{a:Act}(hf:Ge l.toArray a0 L vals a)(hv:∀k,L k=true->vals k=pv k){o:Oper}(hg:∀j b,o.guard=some (j,b)->L j=true):
  Region.wanted o (yielded l.toArray a.tmps)=Ir l pv o:=by
 unfold Region.wanted Ir
 cases hgo:o.guard with
 | none=>rfl
 | some jw=>
  obtain⟨j,aA⟩:=jw;have hL:=hg j aA hgo;simp only[yielded,List.getElem?_toArray]
  cases hlj:l[j]? with
  | none=>simp
  | some oj=>
   cases hdj:oj.dst with
   | none=>simp[hdj]
   | some t=>
    have h1:=hf.got j oj t hL (by simpa using hlj) hdj;rw[hv j hL]at h1;simp only[Option.bind_some,hdj,h1];cases pv j <;> simp
def Bu(P:Program)(Q:Exit->Act->World->Prop)(l:List Oper)(a0:Act)(pv:Nat->Value)(w:World)(i:Nat)(o:Oper):Prop:=
 if Ir l pv o=true then ∀(L:Nat->Bool) (a:Act) (w':World),(∀k t o',L k=true->l[k]?=some o'->o'.dst=some t->a.tmps[t]?=some (pv k))->(∀t,(l.all fun o=>o.dst !=some t)=true->a.tmps[t]?=a0.tmps[t]?)->(∀e∈o.after,Region.binds .any e=true->L e.on=true)->Ex w w'->
  ∀K:Act->World->Prop,(∀w'',Ex w' w''->K (a.put o.dst (pv i)) w'')->o.wp P a w' K Q
 else pv i=undef
theorem Bu.on{l:List Oper}{pv:Nat->Value}{w:World}{i:Nat}{o:Oper}(hw:Ir l pv o=true)(h:∀(L:Nat->Bool) (a:Act) (w':World),(∀k t o',L k=true->l[k]?=some o'->o'.dst=some t->a.tmps[t]?=some (pv k))->(∀t,(l.all fun o=>o.dst !=some t)=true->a.tmps[t]?=a0.tmps[t]?)->(∀e∈o.after,Region.binds .any e=true->L e.on=true)->Ex w w'->
  ∀K:Act->World->Prop,(∀w'',Ex w' w''->K (a.put o.dst (pv i)) w'')->o.wp P a w' K Q):Bu P Q l a0 pv w i o:=by
 unfold Bu;rw[if_pos hw];exact h
theorem Bu.off{l:List Oper}{pv:Nat->Value}{w:World}{i:Nat}{o:Oper}(hw:Ir l pv o=false)(h:pv i=undef):Bu P Q l a0 pv w i o:=by
 unfold Bu;rw[if_neg (by rw[hw];decide)];exact h
theorem BR{id:Nat}{l:List Oper}{w:World}(pv:Nat->Value)(hm:P.follows .mixedOrders=true)(hB:Rq a0.tmps.size l 0 []=true)(hG:grdK l=true)
  (hs:AG (Bu P Q l a0 pv w) l 0) (he:∀w',Ex w w'->Q .normal (Cm l pv 0 a0) w'):(Code.region id l.toArray true).wp P Q a0 w:=by
 refine KC (fun L V w'=>(∀k,L k=true->V k=pv k)/\Ex w w') hm hB ⟨fun k h=>bj,(Ex.refl w).drew⟩ ?_ ?_
 .have aD:∀(l':List Oper) (k0:Nat),(∀i o,l'[i]?=some o->l[k0+i]?=some o)->AG (Bu P Q l a0 pv w) l' k0->AG (OpSw P Q (fun L V w'=>(∀k,L k=true->V k=pv k)/\Ex w w') l.toArray a0) l' k0:=fun l'=>by
   induction l' with
   | nil=>intro _ _ _;trivial
   | cons o l' ih=>
    intro k0 aA h;refine⟨?_,ih (k0+1) (fun i o' hi=>by rw[show k0+1+i=k0+(i+1) from ac];exact aA (i+1) o' hi) h.2⟩;intro L V a w' hf hj hi hd hcl K hK;have aE:l[k0]?=some o:=by have:=aA 0 o rfl;simpa using this
    have hg:∀j b,o.guard=some (j,b)->L j=true:=fun j b aG=>by
     have h1:=List.all_eq_true.1 hG o (List.mem_of_getElem? aE);rw[aG]at h1;simp only[Array.any_eq_true']at h1;obtain⟨e,he,h2⟩:=h1;rw[Bool.and_eq_true,beq_iff_eq]at h2;rw[<-h2.1];exact hd e he h2.2
    rw[VD hf hj.1 hg];have h1:=h.1;unfold Bu at h1;have aB:∀v w'',v=pv k0->Ex w w''->K (a.put o.dst v) w'':=fun v w'' hv hx=>hK v w'' ⟨fun k hk=>by
     by_cases e:k=k0
     .subst e;rw[Ab];exact hv
     .rw[Ae _ _ e]at hk ⊢;exact hj.1 k hk,hx⟩
    by_cases hw:Ir l pv o=true
    .rw[if_pos hw]at h1 ⊢;exact h1 L a w' (fun k t o' hk aF aH=>by rw[<-hj.1 k hk];exact hf.in_ k t hk aF aH) (fun t ht=>hf.out_ t ht) hd hj.2 K fun w'' hx=>aB _ _ rfl (hj.2.trans hx)
    .rw[if_neg hw]at h1 ⊢;exact aB _ _ h1.symm hj.2
  exact aD l 0 (fun i o h=>by rw[Nat.zero_add];exact h) hs
 .intro L V w' aC hj;have hp:Cm l V 0 a0=Cm l pv 0 a0:=EO l 0 V pv a0 fun i o hi hd=>by
   rw[Nat.zero_add];exact hj.1 i (aC i (List.getElem?_eq_some_iff.1 hi).1)
  rw[hp];exact he w' hj.2
end
structure SP(w w':World)(base:Nat)(e:TypeId)(size:Nat)(v v':Value)(n:Nat)(xs news:List Value):Prop where
 own:w'.ownsRow base e size v' (n+1) (xs++news)
 gr:w.grownBy w' v.ownBlock
 at_:v'.ownBlock=v.ownBlock∨v'.ownBlock=some w.heap.size
 old:w.ownsRow base e size v n xs
section
variable {w w':World} {base:Nat} {e:TypeId} {size:Nat} {v v':Value} {n:Nat} {xs news:List Value}
theorem SP.ex(h:SP w w' base e size v v' n xs news){a:World}(hx:Ex a w)(hb:a.heap.size<=base):Ex a w':=Ex.grown hx h.old hb h.gr
theorem SP.cell(h:SP w w' base e size v v' n xs news){a:Addr}{u:Value}(hc:w.cell? a=some u)(aA:some a.block≠v.ownBlock):w'.cell? a=some u:=h.gr.cell hc aA
theorem SP.frz(h:SP w w' base e size v v' n xs news){a:Addr}{u:Value}(hc:w.cell? a=some u)(hf:w.frozen? a=false)(aA:some a.block≠v.ownBlock):w'.frozen? a=false:=by
 have aB:=World.block_lt_of_cell? _ _ hc;rw[<-hf];have h2:=h.gr.block a.block aB aA;unfold World.frozen?;rw[h2]
theorem SP.row(h:SP w w' base e size v v' n xs news){b2:Nat}{e2:TypeId}{s2:Nat}{v2:Value}{n2:Nat}{ys:List Value}(k:w.ownsRow b2 e2 s2 v2 n2 ys)(ha:AT v2 v):
  w'.ownsRow b2 e2 s2 v2 n2 ys/\AT v2 v':=by
 refine⟨k.kept h.gr ha,?_⟩;exact zcQ
end
theorem SW{w:World}{B:Nat}{x:Value}{t:TypeId}(h:w.heap[B]?=some (.cells #[x] t)):Sl w (.slice (some (B,0)) 1 1) 1 1 [x]:=
 ⟨rfl,some ⟨B,0,none⟩,1,rfl,Nat.le_refl _,by unfold maxLen;omega,fun _=>⟨B,0,rfl,fun j u hu=>by
  match j,hu with
  | 0,hu=>
   simp at hu;subst hu;rw[Nat.zero_add,cell_of_row w B 0 #[x] t (0,0) h];rfl
  | j+1,hu=>simp at hu⟩⟩
section
variable {P:Program} {Q:Exit->Act->World->Prop} {a0:Act}
def I5(P:Program)(Q:Exit->Act->World->Prop)(l:List Oper)(a0:Act)(pv:Nat->Value)(wr:World)(ib ia fa m i:Nat)(o:Oper):Prop:=
 ∀(L:Nat->Bool) (a:Act) (w:World),(∀k t o',L k=true->k<m->k≠ib->k≠ia->l[k]?=some o'->o'.dst=some t->a.tmps[t]?=some (pv k))->(∀t,(l.all fun o=>o.dst !=some t)=true->a.tmps[t]?=a0.tmps[t]?)->(∀e∈o.after,Region.binds .any e=true->L e.on=true)->
  ∀K:Act->World->Prop,
   if i=fa then(K (a.put o.dst (pv i)) w->o.wp P a w K Q)
   else if i=m∨i=ia then True
   else if i=ib then(Ex wr w->True)
   else Ex wr w->(∀w',Ex w w'->K (a.put o.dst (pv i)) w')->o.wp P a w K Q
def asChk(l:List Oper)(ib ia fa m:Nat):Bool:=
 l.length==m+1&&decide (ib<m)&&decide (ia<m)&&decide (fa<m)&&ib !=ia&&ia !=fa&&ib !=fa&&(match l[m]? with|some om=>om.dst.isNone&&(om.after.any fun e=>e.on==ia&&Region.binds .any e)&&(om.after.any fun e=>e.on==fa&&Region.binds .any e)|none=>false) &&
 (match l[ia]? with|some oa=>oa.after.any fun e=>e.on==ib&&Region.binds .any e|none=>false) &&
 (List.range m).all fun k=>k==fa||k==ia||(List.range m).any fun k'=>decide (k<k')&&k' !=fa&&(match l[k']? with|some o=>o.after.any fun e=>e.on==k&&Region.binds .any e|none=>false)
structure AsJ(pv:Nat->Value)(wr:World)(ib ia fa m:Nat)(u:Value)(T:TypeId)(A Fin:Value->World->Prop)(L:Nat->Bool)(V:Nat->Value)(w:World):Prop where
 vals:∀k,L k=true->k<m->k≠ib->k≠ia->V k=pv k
 ex:L ia=false->Ex wr w
 vb:L ib=true->∃B,V ib= .slice (some ⟨B,0,none⟩) 1 1/\(L ia=false->w.heap[B]?=some (.cells #[u] T))
 va:L ia=true->L m=false->A (V ia) w
 fin:L m=true->L ia=true/\Fin (V ia) w
theorem FM{l:Array Edge}{k:Nat}(h:(l.any fun e=>e.on==k&&Region.binds .any e)=true):∃e∈l,e.on=k/\Region.binds .any e=true:=by
 rw[Array.any_eq_true']at h;obtain⟨e,he,h⟩:=h;rw[Bool.and_eq_true,beq_iff_eq]at h;exact⟨e,he,h.1,h.2⟩
theorem zce{P:Prop}(h:P:=by
 have aA:B<w.heap.size:=(Array.getElem?_eq_some_iff.1 hb).1;rw[h.block B aA];exact hb):P:=h
theorem Xj{w w':World}{B:Nat}{o:Obj}(h:Ex w w')(hb:w.heap[B]?=some o):w'.heap[B]?=some o:=by
 exact zce
theorem zaJ{P:Prop}(h:P:=by
 by_cases e2:k=k0
 .rw[e2,Ab]
 .rw[Ae _ _ e2]at hk ⊢;exact hj.vals k hk a1 a2 a3):P:=h
theorem zaR{P:Prop}(h:P:=by
 rw[Ae _ _ (by omega)]at hk ⊢;exact hj.vals k hk a1 a2 a3):P:=h
theorem za2{P:Prop}(h:P:=by
 rw[Ae _ _ (by omega),aV]at h2;cases h2):P:=h
theorem FT{id:Nat}{l:List Oper}{w:World}(pv:Nat->Value)(ib ia fa m:Nat)(u:Value)(T:TypeId)(A Fin:Value->World->Prop)(hm:P.follows .mixedOrders=true)(hB:Ob a0.tmps.size l 0 []=true)(hl:asChk l ib ia fa m=true)
  (hs:AG (I5 P Q l a0 pv w ib ia fa m) l 0)
  (hb:∀(o:Oper) (a:Act) (w1:World) (K:Act->World->Prop),l[ib]?=some o->Ex w w1->(∀k t o',(o.after.any fun e=>e.on==k&&Region.binds .any e)=true->k<m->k≠ib->k≠ia->l[k]?=some o'->o'.dst=some t->a.tmps[t]?=some (pv k))->K (a.put o.dst (.slice (some (w1.heap.size,0)) 1 1)) (w1.alloc (.cells #[u] T))->o.wp P a w1 K Q)
  (ha:∀(o ob:Oper) (a:Act) (w1:World) (B:Nat) (K:Act->World->Prop),l[ia]?=some o->l[ib]?=some ob->Ex w w1->(∀t,ob.dst=some t->a.tmps[t]?=some (.slice (some (B,0)) 1 1))->w1.heap[B]?=some (.cells #[u] T)->(∀k t o',(o.after.any fun e=>e.on==k&&Region.binds .any e)=true->k<m->k≠ib->k≠ia->l[k]?=some o'->o'.dst=some t->a.tmps[t]?=some (pv k))->(∀v w2,A v w2->K (a.put o.dst v) w2)->o.wp P a w1 K Q)
  (BC:∀(o oa of:Oper) (a:Act) (w1:World) (v:Value) (K:Act->World->Prop),l[m]?=some o->l[ia]?=some oa->l[fa]?=some of->A v w1->(∀t,oa.dst=some t->a.tmps[t]?=some v)->(∀t,of.dst=some t->a.tmps[t]?=some (pv fa))->(∀w2,Fin v w2->K (a.put o.dst undef) w2)->o.wp P a w1 K Q)
  (aY:Nat->Value->Nat->Value) (bN:∀B v,(List.range m).map (aY B v)=(List.range m).map (Ay (Ay pv ib (.slice (some ⟨B,0,none⟩) 1 1)) ia v))
  (he:∀(B:Nat) (v:Value) (w1:World),Fin v w1->Q .normal (Cm l (aY B v) 0 a0) w1):(Code.region id l.toArray true).wp P Q a0 w:=by
 unfold asChk at hl;simp only[Bool.and_eq_true,beq_iff_eq,decide_eq_true_eq,bne_iff_ne,ne_eq]at hl;obtain⟨⟨⟨⟨⟨⟨⟨⟨⟨hlen,hibm⟩,hiam⟩,hfam⟩,hba⟩,haf⟩,hbf⟩,aL⟩,bH⟩,aJ⟩:=hl;obtain⟨om,aB⟩:∃om,l[m]?=some om:=by
  cases h:l[m]? with
  | none=>rw[h]at aL;cases aL
  | some om=>exact⟨om,rfl⟩
 rw[aB]at aL;simp only[Bool.and_eq_true]at aL;obtain⟨⟨aF,bS⟩,bR⟩:=aL;have bT:om.dst=none:=by cases hd:om.dst with|none=>rfl|some d=>rw[hd]at aF;cases aF
 obtain⟨ea,aT,aS,aR⟩:=FM bS;obtain⟨ef,aQ,aP,aO⟩:=FM bR;obtain⟨oa,aC⟩:∃oa,l[ia]?=some oa:=⟨_,List.getElem?_eq_getElem ac⟩;obtain⟨ob,aE⟩:∃ob,l[ib]?=some ob:=⟨_,List.getElem?_eq_getElem ac⟩;obtain⟨of,aM⟩:∃of,l[fa]?=some of:=⟨_,List.getElem?_eq_getElem ac⟩;rw[aC]at bH;obtain⟨eb,bD,bC,bB⟩:=FM bH;have bF:∀(L:Nat->Bool),(∀(k:Nat) (o':Oper),L k=true->l.toArray[k]?=some o'->∀e∈o'.after,Region.binds .any e=true->L e.on=true)->L ia=true->∀d k,m-k<=d->k<m->k≠fa->L k=true:=fun L aU aG d=>by
  induction d with
  | zero=>intro k h1 h2;omega
  | succ d ih=>
   intro k h1 h2 h3;by_cases e:k=ia
   .rw[e];exact aG
   .have:=List.all_eq_true.1 aJ k (List.mem_range.2 h2);simp only[Bool.or_eq_true,beq_iff_eq]at this;rcases this with (h|h)|h
    .exact absurd h h3
    .exact absurd h e
    .obtain⟨k',bO,h⟩:=List.any_eq_true.1 h;simp only[Bool.and_eq_true,decide_eq_true_eq,bne_iff_ne,ne_eq]at h;obtain⟨⟨h4,h5⟩,h6⟩:=h;have aZ:=List.mem_range.1 bO;have bU:=ih k' ac aZ h5;obtain⟨o',aI⟩:∃o',l[k']?=some o':=⟨_,List.getElem?_eq_getElem ac⟩;rw[aI]at h6;obtain⟨e1,g1,g2,g3⟩:=FM h6;have:=aU k' o' bU (by simpa using aI) e1 g1 g3;rw[g2]at this;exact this
 refine Db (AsJ pv w ib ia fa m u T A Fin) hm hB ⟨fun k h=>bj,fun _=>(Ex.refl w).drew,fun h=>bj,fun h=>bj,fun h=>bj⟩ ?_ ?_
 .have bK:∀(l':List Oper) (k0:Nat),(∀i o,l'[i]?=some o->l[k0+i]?=some o)->AG (I5 P Q l a0 pv w ib ia fa m) l' k0->AG (Vu P Q (AsJ pv w ib ia fa m u T A Fin) l.toArray a0) l' k0:=fun l'=>by
   induction l' with
   | nil=>intro _ _ _;trivial
   | cons o l' ih=>
    intro k0 aK h;refine⟨?_,ih (k0+1) (fun i o' hi=>by rw[show k0+1+i=k0+(i+1) from ac];exact aK (i+1) o' hi) h.2⟩;intro L V a w' hf hj hi hd aU K hK;have aA:l[k0]?=some o:=by have:=aK 0 o rfl;simpa using this
    have hk0:k0<l.length:=(List.getElem?_eq_some_iff.1 aA).1;have bA:∀k t o',L k=true->k<m->k≠ib->k≠ia->l[k]?=some o'->o'.dst=some t->a.tmps[t]?=some (pv k):=fun k t o' hk h1 h2 h3 aI bE=>by
     rw[<-hj.vals k hk h1 h2 h3];exact hf.in_ k t hk aI bE
    have aD:∀k t o',(o.after.any fun e=>e.on==k&&Region.binds .any e)=true->k<m->k≠ib->k≠ia->l[k]?=some o'->o'.dst=some t->a.tmps[t]?=some (pv k):=fun k t o' hk h1 h2 h3 aI bE=>by
     obtain⟨e,g1,g2,g3⟩:=FM hk;exact bA k t o' (by have:=hd e g1 g3;rw[g2]at this;exact this) h1 h2 h3 aI bE
    have aW:k0≠fa->k0≠m->L ia=false:=fun h1 h2=>Bn fun hb=>by
     have:=bF L aU hb _ k0 (Nat.le_refl _) ac h1;rw[hi]at this;cases this
    have aV:L m=false:=by
     by_cases e:k0=m
     .rw[<-e];exact hi
     .refine Bn fun hb=>?_;by_cases e2:k0=fa
      .have:=aU m om hb (by simpa using aB) ef aQ aO;rw[aP,<-e2,hi]at this;cases this
      .have:=aU m om hb (by simpa using aB) ea aT aR;rw[aS,aW e2 e]at this;cases this
    have h1:=h.1 L a w' bA (fun t ht=>hf.out_ t ht) hd K;by_cases e1:k0=fa
    .rw[if_pos e1]at h1;refine h1 (hK (pv k0) _ ⟨fun k hk a1 a2 a3=>?_,fun hh=>?_,fun hh=>?_,fun h2 h3=>?_,fun h2=>?_⟩)
     .exact zaJ
     .rw[Ae _ _ ac]at hh;exact hj.ex hh
     .rw[Ae _ _ ac]at hh ⊢;obtain⟨B,g1,g2⟩:=hj.vb hh;exact⟨B,g1,fun g3=>g2 (by rw[Ae _ _ ac]at g3;exact g3)⟩
     .rw[Ae _ _ ac]at h2 h3 ⊢;exact hj.va h2 h3
     .exact za2
    .rw[if_neg e1]at h1;by_cases e2:k0=m
     .rw[e2,aB]at aA;injection aA with aA;have aG:L ia=true:=by
       have:=hd ea (by rw[<-aA];exact aT) aR;rw[aS]at this;exact this
      have bQ:L fa=true:=by
       have:=hd ef (by rw[<-aA];exact aQ) aO;rw[aP]at this;exact this
      rw[<-aA];refine BC om oa of a w' (V ia) K aB aC aM (hj.va aG aV) (fun t ht=>hf.in_ ia t aG aC ht) (fun t ht=>bA fa t of bQ ac ac ac aM ht) fun w2 bL=>?_;rw[aA];refine hK undef _ ⟨fun k hk a1 a2 a3=>?_,fun hh=>?_,fun hh=>?_,fun h2 h3=>?_,fun h2=>?_⟩
      .exact zaR
      .rw[Ae _ _ ac,aG]at hh;cases hh
      .rw[Ae _ _ ac]at hh ⊢;obtain⟨B,g1,g2⟩:=hj.vb hh;exact⟨B,g1,fun g3=>by rw[Ae _ _ ac,aG]at g3;cases g3⟩
      .rw[e2,Ab]at h3;cases h3
      .rw[Ae _ _ ac,Ae _ _ ac];exact⟨aG,bL⟩
     .have aX:=aW e1 e2;have aN:=hj.ex aX;by_cases e3:k0=ia
      .rw[e3,aC]at aA;injection aA with aA;have bJ:L ib=true:=by
        have:=hd eb (by rw[<-aA];exact bD) bB;rw[bC]at this;exact this
       obtain⟨B,g1,g2⟩:=hj.vb bJ;rw[<-aA];rw[<-aA]at aD;refine ha oa ob a w' B K aC aE aN (fun t ht=>by rw[<-g1];exact hf.in_ ib t bJ aE ht) (g2 aX) aD fun v w2 hA=>?_;rw[aA];refine hK v _ ⟨fun k hk a1 a2 a3=>?_,fun hh=>?_,fun hh=>?_,fun h2 h3=>?_,fun h2=>?_⟩
       .exact zaR
       .rw[e3,Ab]at hh;cases hh
       .rw[Ae _ _ ac];exact⟨B,g1,fun g3=>by rw[e3,Ab]at g3;cases g3⟩
       .rw[e3,Ab];exact hA
       .exact za2
      .by_cases e4:k0=ib
       .rw[e4,aE]at aA;injection aA with aA;rw[<-aA]at aD;rw[<-aA];refine hb ob a w' K aE aN aD ?_;rw[aA];refine hK (.slice (some (w'.heap.size,0)) 1 1) _ ⟨fun k hk a1 a2 a3=>?_,fun hh=>?_,fun hh=>?_,fun h2 h3=>?_,fun h2=>?_⟩
        .exact zaR
        .exact aN.alloc _
        .rw[e4,Ab];exact⟨_,rfl,fun _=>by show(w'.heap.push _)[w'.heap.size]?=_;rw[Array.getElem?_push_size]⟩
        .rw[Ae _ _ ac,aX]at h2;cases h2
        .exact za2
       .rw[if_neg ac,if_neg e4]at h1;refine h1 aN fun w2 bG=>hK (pv k0) _ ⟨fun k hk a1 a2 a3=>?_,fun hh=>?_,fun hh=>?_,fun h2 h3=>?_,fun h2=>?_⟩
        .exact zaJ
        .exact aN.trans bG
        .rw[Ae _ _ ac]at hh ⊢;obtain⟨B,g1,g2⟩:=hj.vb hh;exact⟨B,g1,fun g3=>Xj bG (g2 aX)⟩
        .rw[Ae _ _ ac,aX]at h2;cases h2
        .exact za2
  exact bK l 0 (fun i o h=>by rw[Nat.zero_add];exact h) hs
 .intro L V w' aH hj;obtain⟨aG,hF⟩:=hj.fin (aH m ac);obtain⟨B,bV,-⟩:=hj.vb (aH ib ac);have bM:∀i,i<m->aY B (V ia) i=Ay (Ay pv ib (.slice (some (B,0)) 1 1)) ia (V ia) i:=fun i hi=>by
   have:=congrArg (fun L=>L[i]?) (bN B (V ia));simpa[hi]using this
  have hp:Cm l V 0 a0=Cm l (aY B (V ia)) 0 a0:=EO l 0 V _ a0 fun i o hi hd=>by
   rw[Nat.zero_add];have bP:i<l.length:=(List.getElem?_eq_some_iff.1 hi).1;have bI:i<m:=by
    refine Nat.lt_of_le_of_ne ac fun e=>hd ?_;rw[e,aB]at hi;injection hi with hi;rw[<-hi];exact bT
   rw[bM i bI];by_cases e1:i=ia
   .rw[e1,Ab]
   .rw[Ae _ _ e1];by_cases e2:i=ib
    .rw[e2,Ab];exact bV
    .rw[Ae _ _ e2];by_cases e3:i=m
     .omega
     .exact hj.vals i (aH i bP) bI e2 e1
  rw[hp];exact he B (V ia) w' hF
def I4(P:Program)(Q:Exit->Act->World->Prop)(l:List Oper)(a0:Act)(pv:Nat->Value)(wr:World)(A Fin:Value->World->Prop)(ia m i:Nat)(o:Oper):Prop:=
 ∀(L:Nat->Bool) (a:Act) (w:World),(∀k t o',L k=true->k<m->k≠ia->l[k]?=some o'->o'.dst=some t->a.tmps[t]?=some (pv k))->(∀t,(l.all fun o=>o.dst !=some t)=true->a.tmps[t]?=a0.tmps[t]?)->(∀e∈o.after,Region.binds .any e=true->L e.on=true)->Ex wr w->
  ∀K:Act->World->Prop,
   if i=ia then(∀v w',Ex w w'->A v w'->K (a.put o.dst v) w')->o.wp P a w K Q
   else if i=m then ∀v,A v w->(∀t oa,l[ia]?=some oa->oa.dst=some t->a.tmps[t]?=some v)->(∀w',Fin v w'->K (a.put o.dst undef) w')->o.wp P a w K Q
   else(∀w',Ex w w'->K (a.put o.dst (pv i)) w')->o.wp P a w K Q
def Xr(l:List Oper)(ia m:Nat):Bool:=
 match l[m]? with|some om=>l.length==m+1&&decide (ia<m)&&om.dst.isNone&&(List.range m).all fun k=>om.after.any fun e=>e.on==k&&Region.binds .any e|none=>false
structure FsJ(pv:Nat->Value)(wr:World)(ia m:Nat)(A Fin:Value->World->Prop)(L:Nat->Bool)(V:Nat->Value)(w:World):Prop where
 vals:∀k,L k=true->k<m->k≠ia->V k=pv k
 ex:L m=false->Ex wr w
 va:L ia=true->L m=false->A (V ia) w
 fin:L m=true->Fin (V ia) w
theorem Iq{id:Nat}{l:List Oper}{w:World}(pv:Nat->Value)(ia m:Nat)(A Fin:Value->World->Prop)(hA:∀v w1 w2,A v w1->Ex w1 w2->A v w2)(hm:P.follows .mixedOrders=true)(hB:Ob a0.tmps.size l 0 []=true)(hl:Xr l ia m=true)
  (hs:AG (I4 P Q l a0 pv w A Fin ia m) l 0) (aF:Value->Nat->Value) (aR:∀v,(List.range m).map (aF v)=(List.range m).map (Ay pv ia v))
  (he:∀(v:Value) (w1:World),Fin v w1->Q .normal (Cm l (aF v) 0 a0) w1):(Code.region id l.toArray true).wp P Q a0 w:=by
 obtain⟨om,aH⟩:∃om,l[m]?=some om:=by
  unfold Xr at hl;exact zcs
 unfold Xr at hl;rw[aH]at hl;simp only[Bool.and_eq_true,beq_iff_eq,decide_eq_true_eq]at hl;obtain⟨⟨⟨hlen,aJ⟩,aA⟩,aL⟩:=hl;have aW:om.dst=none:=dz;have aB:∀k,k<m->∃e∈om.after,(e:Edge).on=k/\Region.binds .any e=true:=fun k hk=>FM (List.all_eq_true.1 aL k (List.mem_range.2 hk));refine Db (FsJ pv w ia m A Fin) hm hB ⟨fun k h=>bj,fun _=>(Ex.refl w).drew,fun h=>bj,fun h=>bj⟩ ?_ ?_
 .have aO:∀(l':List Oper) (k0:Nat),(∀i o,l'[i]?=some o->l[k0+i]?=some o)->AG (I4 P Q l a0 pv w A Fin ia m) l' k0->AG (Vu P Q (FsJ pv w ia m A Fin) l.toArray a0) l' k0:=fun l'=>by
   induction l' with
   | nil=>intro _ _ _;trivial
   | cons o l' ih=>
    intro k0 aD h;refine⟨?_,ih (k0+1) (fun i o' hi=>by rw[show k0+1+i=k0+(i+1) from ac];exact aD (i+1) o' hi) h.2⟩;intro L V a w' hf hj hi hd aY K hK;have aE:l[k0]?=some o:=by have:=aD 0 o rfl;simpa using this
    have hk0:k0<l.length:=(List.getElem?_eq_some_iff.1 aE).1;have aI:L m=false:=by
     by_cases e:k0=m
     .rw[<-e];exact hi
     .refine Bn fun hb=>?_;obtain⟨e2,h1,h2,h3⟩:=aB k0 ac;have:=aY m om hb (by simpa using aH) e2 h1 h3;rw[h2,hi]at this;cases this
    have aK:=hj.ex aI;have h1:=h.1 L a w' (fun k t o' hk h1 h2 aU aX=>by rw[<-hj.vals k hk h1 h2];exact hf.in_ k t hk aU aX) (fun t ht=>hf.out_ t ht) hd aK K;by_cases e1:k0=ia
    .rw[if_pos e1]at h1;refine h1 fun v w2 aG aZ=>hK v _ ⟨fun k hk a1 a2=>?_,fun hh=>aK.trans aG,fun h2 h3=>?_,fun h2=>?_⟩
     .rw[Ae _ _ ac]at hk ⊢;exact hj.vals k hk a1 a2
     .rw[e1,Ab];exact aZ
     .rw[Ae _ _ ac,aI]at h2;cases h2
    .rw[if_neg e1]at h1;by_cases e2:k0=m
     .rw[if_pos e2]at h1;have aN:L ia=true:=by
       obtain⟨e3,g1,g2,g3⟩:=aB ia aJ;have aS:o=om:=by rw[e2,aH]at aE;injection aE with aE;exact aE.symm
       have:=hd e3 (by rw[aS];exact g1) g3;rw[g2]at this;exact this
      refine h1 (V ia) (hj.va aN aI) (fun t oa aT ht=>hf.in_ ia t aN aT ht) fun w2 aP=>hK undef _ ⟨fun k hk a1 a2=>?_,fun hh=>?_,fun h2 h3=>?_,fun h2=>?_⟩
      .rw[Ae _ _ ac]at hk ⊢;exact hj.vals k hk a1 a2
      .rw[e2,Ab]at hh;cases hh
      .rw[e2,Ab]at h3;cases h3
      .rw[Ae _ _ ac];exact aP
     .rw[if_neg e2]at h1;refine h1 fun w2 aG=>hK (pv k0) _ ⟨fun k hk a1 a2=>?_,fun hh=>aK.trans aG,fun h2 h3=>?_,fun h2=>?_⟩
      .by_cases e3:k=k0
       .rw[e3,Ab]
       .rw[Ae _ _ e3]at hk ⊢;exact hj.vals k hk a1 a2
      .rw[Ae _ _ ac]at h2 h3 ⊢;exact hA _ _ _ (hj.va h2 h3) aG
      .rw[Ae _ _ ac,aI]at h2;cases h2
  exact aO l 0 (fun i o h=>by rw[Nat.zero_add];exact h) hs
 .intro L V w' aC hj;have hF:=hj.fin (aC m ac);have aQ:∀i,i<m->aF (V ia) i=Ay pv ia (V ia) i:=fun i hi=>by
   have:=congrArg (fun L=>L[i]?) (aR (V ia));simpa[hi]using this
  have hp:Cm l V 0 a0=Cm l (aF (V ia)) 0 a0:=EO l 0 V _ a0 fun i o hi hd=>by
   rw[Nat.zero_add];have aV:i<l.length:=(List.getElem?_eq_some_iff.1 hi).1;have aM:i<m:=by
    refine Nat.lt_of_le_of_ne ac fun e=>hd ?_;rw[e,aH]at hi;injection hi with hi;rw[<-hi];exact aW
   rw[aQ i aM];by_cases e1:i=ia
   .rw[e1,Ab]
   .rw[Ae _ _ e1];exact hj.vals i (aC i aV) aM e1
  rw[hp];exact he (V ia) w' hF
end
end Go.Proofs.YtehieobniamagaaGreat
