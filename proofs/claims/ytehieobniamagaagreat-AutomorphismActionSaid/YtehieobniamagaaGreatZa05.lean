/- The values of a long region whose operations fill one slot after the other. -/
import Derived.Test.YtehieobniamagaaGreatZa04
namespace Go.Proofs.YtehieobniamagaaGreat
open Go.RowKit
set_option linter.all false
set_option maxRecDepth 100000
set_option maxRecDepth 100000
set_option maxHeartbeats 1000000
def Mt:List Oper->Nat->Bool
 | [],_=>true
 | o :: l,s=>(o.dst==some s)&&Mt l (s+1)
theorem P8:∀(A:List Value) (x v:Value) (C:List Value),(A++x :: C).set A.length v=A++v :: C
 | [],x,v,C=>rfl
 | a :: A,x,v,C=>by
  show a :: (A++x :: C).set A.length v=_
  rw[P8 A x v C];rfl
def M6(V:Nat->Value):Nat->Nat->List Value
 | _,0=> []
 | k,n+1=>V k :: M6 V (k+1) n
theorem Np:∀(l:List Oper) (V:Nat->Value) (k:Nat) (A B C:List Value) (D:List Deferred),B.length=l.length->Mt l A.length=true->BU l V k ⟨(A++(B++C)).toArray,D⟩=⟨(A++(M6 V k l.length++C)).toArray,D⟩
 | [],V,k,A,B,C,D,hB,_=>by
  have:B= []:=List.length_eq_zero_iff.1 hB;subst this;rfl
 | o :: l,V,k,A, [],C,D,hB,_=>by simp at hB
 | o :: l,V,k,A,x :: B,C,D,hB,h=>by
  unfold Mt at h;rw[Bool.and_eq_true,beq_iff_eq]at h;have e:Act.put ⟨(A++(x :: B++C)).toArray,D⟩ o.dst (V k)=⟨((A ++ [V k])++(B++C)).toArray,D⟩:=by
   rw[h.1];show Act.mk ((A++(x :: B++C)).toArray.setIfInBounds A.length (V k)) D=_
   congr 1
   rw[List.setIfInBounds_toArray];have:=P8 A x (V k) (B++C);rw[show x :: B++C=x :: (B++C) from rfl,this];simp
  show BU l V (k+1) (Act.put ⟨(A++(x :: B++C)).toArray,D⟩ o.dst (V k))=_
  rw[e,Np l V (k+1) (A ++ [V k]) B C D (by simpa using hB) (by rw[List.length_append];exact h.2)];show _=Act.mk (A++(V k :: M6 V (k+1) l.length++C)).toArray D
  simp
theorem I4:∀(vals aA:List Value),M6 (fun k=>(aA++vals).getD k undef) aA.length vals.length=vals
 | [],aA=>rfl
 | v :: vals,aA=>by
  show(aA++v :: vals).getD aA.length undef :: M6 (fun k=>(aA++v :: vals).getD k undef) (aA.length+1) vals.length=v :: vals
  have h1:(aA++v :: vals).getD aA.length undef=v:=by
   rw[List.getD_eq_getElem?_getD,List.getElem?_append_right (Nat.le_refl _)];simp
  have h2:=I4 vals (aA ++ [v]);rw[List.length_append,List.append_assoc]at h2;rw[h1];exact congrArg (v :: ·) h2
theorem cd{P:Prop}(h:P:=by rw[List.length_take];omega):P:=h
theorem LO{l:List Oper}{vals a:List Value}{D:List Deferred}{P:Act}(hP:BU l (fun k=>vals.getD k undef) 0 ⟨a.toArray,D⟩=P)(s t:Nat)(h:(Mt l s&&(vals.length==l.length&&(s+l.length==t&&decide (t<=a.length))))=true):P=⟨(a.take s++(vals++a.drop t)).toArray,D⟩:=by
 simp only[Bool.and_eq_true,beq_iff_eq,decide_eq_true_eq]at h;obtain⟨h1,h2,h3,h4⟩:=h;subst hP;have e:a=a.take s++((a.drop s).take l.length++a.drop t):=by
  rw[<-h3,<-List.drop_drop,List.take_append_drop,List.take_append_drop]
 have h5:(a.take s).length=s:=cd;have h6:((a.drop s).take l.length).length=l.length:=by rw[List.length_take,List.length_drop];omega
 have h7:=Np l (fun k=>vals.getD k undef) 0 (a.take s) ((a.drop s).take l.length) (a.drop t) D h6 (by rw[h5];exact h1);rw[<-e]at h7;rw[h7,<-h2];have:=I4 vals [];simp only[List.nil_append,List.length_nil]at this;rw[this]
def VF:List Oper->Nat->Nat->Option Nat
 | [],_,_=>none
 | o :: l,k,t=>if (o.dst==some t)=true then some k else VF l (k+1) t
theorem Jv:∀(l:List Oper) (k t j:Nat),VF l k t=some j->∃o,k<=j/\l[j-k]?=some o/\o.dst=some t
 | [],k,t,j,h=>by cases h
 | o :: l,k,t,j,h=>by
  unfold VF at h;split at h
  .rename_i h1;injection h with h;subst h;exact⟨o,Nat.le_refl _,by simp,by simpa using h1⟩
  .obtain⟨o',h2,h3,h4⟩:=Jv l (k+1) t j h;refine⟨o',ac,?_,h4⟩;rw[show j-k=(j-(k+1))+1 from ac];exact h3
theorem Jw:∀(l:List Oper) (k t:Nat),VF l k t=none->(l.all fun o=>o.dst !=some t)=true
 | [],k,t,h=>rfl
 | o :: l,k,t,h=>by
  unfold VF at h;split at h
  .cases h
  .rename_i h1;rw[List.all_cons,Jw l (k+1) t h,Bool.and_true];simpa using h1
def ZN(l:List Oper)(pv:Nat->Value)(a0:Act)(o:Oper)(t:Nat):Option Value:=match VF l 0 t with
 | some j=>if (o.after.toList.any fun e=>e.on==j&&Region.binds .any e)=true then some (pv j) else none
 | none=>a0.tmps[t]?
theorem AT.go{P:Program}{Q:Exit->Act->World->Prop}{a0:Act}{l:List Oper}{pv:Nat->Value}{w:World}{i:Nat}{o:Oper}(hw:Gu l pv o=true)
  (h:∀(a:Act) (w':World),(∀t v,ZN l pv a0 o t=some v->a.tmps[t]?=some v)->Ex w w'->∀K:Act->World->Prop,(∀w'',Ex w' w''->K (a.put o.dst (pv i)) w'')->o.wp P a w' K Q):AT P Q l a0 pv w i o:=
 AT.on hw fun L a w' aB aA hd hx K hK=>h a w' (fun t v hv=>by
  unfold ZN at hv
  cases hj:VF l 0 t with
  | none=>
   rw[hj]at hv;rw[aA t (Jw l 0 t hj)];exact hv
  | some j=>
   rw[hj]at hv;obtain⟨o',_,h2,h3⟩:=Jv l 0 t j hj;simp only at hv;split at hv
   .rename_i h4;injection hv with hv;obtain⟨e,he,h5⟩:=List.any_eq_true.1 h4;have he:=Array.mem_toList_iff.1 he;rw[Bool.and_eq_true,beq_iff_eq]at h5;have hL:=hd e he h5.2;rw[h5.1]at hL;rw[<-hv];exact aB j t o' hL h2 h3
   .cases hv) hx K hK
theorem AT.gd{P:Program}{Q:Exit->Act->World->Prop}{a0:Act}{l:List Oper}{pv:Nat->Value}{w:World}{i:Nat}{o:Oper}(c:Bool)
  (h:c=false->∀(a:Act) (w':World),(∀t v,ZN l pv a0 o t=some v->a.tmps[t]?=some v)->Ex w w'->∀K:Act->World->Prop,(∀w'',Ex w' w''->K (a.put o.dst (pv i)) w'')->o.wp P a w' K Q)
  (h1:c=true->Gu l pv o=false/\pv i=undef:=by rintro rfl;exact⟨rfl,rfl⟩) (h2:c=false->Gu l pv o=true:=by rintro rfl;rfl):AT P Q l a0 pv w i o:=by
 cases c with
 | true=>exact AT.off (h1 rfl).1 (h1 rfl).2
 | false=>exact AT.go (h2 rfl) (h rfl)
theorem Fl{A:Sort _}(x:A):∃y,Hia (x=y):=⟨x,rfl⟩
theorem YC{x y:Bool}(h:Hia ((x||y)=false)):x=false/\y=false:=by
 have h:=h.o;cases x <;> cases y <;> simp_all
structure Oz(w w':World)(base:Nat)(e:TypeId)(size:Nat)(v v':Value)(n:Nat)(xs news:List Value):Prop where
 own:w'.ownsRow base e size v' (n+1) (xs++news)
 gr:w.grownBy w' v.ownBlock
 at_:v'.ownBlock=v.ownBlock∨v'.ownBlock=some w.heap.size
 old:w.ownsRow base e size v n xs
section
variable {w w':World} {base:Nat} {e:TypeId} {size:Nat} {v v':Value} {n:Nat} {xs news:List Value}
theorem Oz.ex(h:Oz w w' base e size v v' n xs news){a:World}(hx:Ex a w)(hb:a.heap.size<=base):Ex a w':=Ex.grown hx h.old hb h.gr
theorem Oz.cell(h:Oz w w' base e size v v' n xs news){a:Addr}{u:Value}(hc:w.cell? a=some u)(aA:some a.block≠v.ownBlock):w'.cell? a=some u:=h.gr.cell hc aA
theorem Oz.frz(h:Oz w w' base e size v v' n xs news){a:Addr}{u:Value}(hc:w.cell? a=some u)(hf:w.frozen? a=false)(aA:some a.block≠v.ownBlock):w'.frozen? a=false:=by
 have aB:=World.block_lt_of_cell? _ _ hc;rw[<-hf];have h2:=h.gr.block a.block aB aA;unfold World.frozen?;rw[h2]
theorem Oz.row(h:Oz w w' base e size v v' n xs news){b2:Nat}{e2:TypeId}{s2:Nat}{v2:Value}{n2:Nat}{ys:List Value}(k:w.ownsRow b2 e2 s2 v2 n2 ys)(ha:AJ v2 v):
  w'.ownsRow b2 e2 s2 v2 n2 ys/\AJ v2 v':=by
 refine⟨k.kept h.gr ha,?_⟩;exact zcv
end
theorem IA{w:World}{B:Nat}{x:Value}{t:TypeId}(h:w.heap[B]?=some (.cells #[x] t)):Sl w (.slice (some ⟨B,0,none⟩) 1 1) 1 1 [x]:=
 ⟨rfl,some ⟨B,0,none⟩,1,rfl,Nat.le_refl _,by unfold maxLen;omega,fun _=>⟨B,0,rfl,fun j u hu=>by
  match j,hu with
  | 0,hu=>
   simp at hu;subst hu;rw[Nat.zero_add,cell_of_row w B 0 #[x] t (0,0) h];rfl
  | j+1,hu=>simp at hu⟩⟩
section
variable {P:Program} {Q:Exit->Act->World->Prop} {a0:Act}
def Ev(P:Program)(Q:Exit->Act->World->Prop)(l:List Oper)(a0:Act)(pv:Nat->Value)(wr:World)(ib ia fa m i:Nat)(o:Oper):Prop:=
 ∀(L:Nat->Bool) (a:Act) (w:World),(∀k t o',L k=true->k<m->k≠ib->k≠ia->l[k]?=some o'->o'.dst=some t->a.tmps[t]?=some (pv k))->(∀t,(l.all fun o=>o.dst !=some t)=true->a.tmps[t]?=a0.tmps[t]?)->(∀e∈o.after,Region.binds .any e=true->L e.on=true)->
  ∀K:Act->World->Prop,
   if i=fa then(K (a.put o.dst (pv i)) w->o.wp P a w K Q)
   else if i=m∨i=ia then True
   else if i=ib then(Ex wr w->True)
   else Ex wr w->(∀w',Ex w w'->K (a.put o.dst (pv i)) w')->o.wp P a w K Q
def WS(l:List Oper)(ib ia fa m:Nat):Bool:=
 l.length==m+1&&decide (ib<m)&&decide (ia<m)&&decide (fa<m)&&ib !=ia&&ia !=fa&&ib !=fa&&(match l[m]? with|some om=>om.dst.isNone&&(om.after.any fun e=>e.on==ia&&Region.binds .any e)&&(om.after.any fun e=>e.on==fa&&Region.binds .any e)|none=>false) &&
 (match l[ia]? with|some oa=>oa.after.any fun e=>e.on==ib&&Region.binds .any e|none=>false) &&
 (List.range m).all fun k=>k==fa||k==ia||(List.range m).any fun k'=>decide (k<k')&&k' !=fa&&(match l[k']? with|some o=>o.after.any fun e=>e.on==k&&Region.binds .any e|none=>false)
structure Z8(pv:Nat->Value)(wr:World)(ib ia fa m:Nat)(u:Value)(T:TypeId)(A Fin:Value->World->Prop)(L:Nat->Bool)(V:Nat->Value)(w:World):Prop where
 vals:∀k,L k=true->k<m->k≠ib->k≠ia->V k=pv k
 ex:L ia=false->Ex wr w
 vb:L ib=true->∃B,V ib= .slice (some ⟨B,0,none⟩) 1 1/\(L ia=false->w.heap[B]?=some (.cells #[u] T))
 va:L ia=true->L m=false->A (V ia) w
 fin:L m=true->L ia=true/\Fin (V ia) w
theorem Fw{l:Array Edge}{k:Nat}(h:(l.any fun e=>e.on==k&&Region.binds .any e)=true):∃e∈l,e.on=k/\Region.binds .any e=true:=by
 rw[Array.any_eq_true']at h;obtain⟨e,he,h⟩:=h;rw[Bool.and_eq_true,beq_iff_eq]at h;exact⟨e,he,h.1,h.2⟩
theorem zb2{P:Prop}(h:P:=by
 have aA:B<w.heap.size:=(Array.getElem?_eq_some_iff.1 hb).1;rw[h.block B aA];exact hb):P:=h
theorem TO{w w':World}{B:Nat}{o:Obj}(h:Ex w w')(hb:w.heap[B]?=some o):w'.heap[B]?=some o:=by
 exact zb2
theorem zaH{P:Prop}(h:P:=by
 by_cases e2:k=k0
 .rw[e2,Ad]
 .rw[Ae _ _ e2]at hk ⊢;exact hj.vals k hk a1 a2 a3):P:=h
theorem zaO{P:Prop}(h:P:=by
 rw[Ae _ _ (by omega)]at hk ⊢;exact hj.vals k hk a1 a2 a3):P:=h
theorem zaX{P:Prop}(h:P:=by
 rw[Ae _ _ (by omega),aV]at h2;cases h2):P:=h
theorem Dw{id:Nat}{l:List Oper}{w:World}(pv:Nat->Value)(ib ia fa m:Nat)(u:Value)(T:TypeId)(A Fin:Value->World->Prop)(hm:P.follows .mixedOrders=true)(hB:Nk a0.tmps.size l 0 []=true)(hl:WS l ib ia fa m=true)
  (hs:AG (Ev P Q l a0 pv w ib ia fa m) l 0)
  (hb:∀(o:Oper) (a:Act) (w1:World) (K:Act->World->Prop),l[ib]?=some o->Ex w w1->(∀k t o',(o.after.any fun e=>e.on==k&&Region.binds .any e)=true->k<m->k≠ib->k≠ia->l[k]?=some o'->o'.dst=some t->a.tmps[t]?=some (pv k))->K (a.put o.dst (.slice (some ⟨w1.heap.size,0,none⟩) 1 1)) (w1.alloc (.cells #[u] T))->o.wp P a w1 K Q)
  (ha:∀(o ob:Oper) (a:Act) (w1:World) (B:Nat) (K:Act->World->Prop),l[ia]?=some o->l[ib]?=some ob->Ex w w1->(∀t,ob.dst=some t->a.tmps[t]?=some (.slice (some ⟨B,0,none⟩) 1 1))->w1.heap[B]?=some (.cells #[u] T)->(∀k t o',(o.after.any fun e=>e.on==k&&Region.binds .any e)=true->k<m->k≠ib->k≠ia->l[k]?=some o'->o'.dst=some t->a.tmps[t]?=some (pv k))->(∀v w2,A v w2->K (a.put o.dst v) w2)->o.wp P a w1 K Q)
  (Bd:∀(o oa of:Oper) (a:Act) (w1:World) (v:Value) (K:Act->World->Prop),l[m]?=some o->l[ia]?=some oa->l[fa]?=some of->A v w1->(∀t,oa.dst=some t->a.tmps[t]?=some v)->(∀t,of.dst=some t->a.tmps[t]?=some (pv fa))->(∀w2,Fin v w2->K (a.put o.dst undef) w2)->o.wp P a w1 K Q)
  (aY:Nat->Value->Nat->Value) (bN:∀B v,(List.range m).map (aY B v)=(List.range m).map (Ax (Ax pv ib (.slice (some ⟨B,0,none⟩) 1 1)) ia v))
  (he:∀(B:Nat) (v:Value) (w1:World),Fin v w1->Q .normal (BU l (aY B v) 0 a0) w1):(Code.region id l.toArray true).wp P Q a0 w:=by
 unfold WS at hl;simp only[Bool.and_eq_true,beq_iff_eq,decide_eq_true_eq,bne_iff_ne,ne_eq]at hl;obtain⟨⟨⟨⟨⟨⟨⟨⟨⟨hlen,hibm⟩,hiam⟩,hfam⟩,hba⟩,haf⟩,hbf⟩,aL⟩,bH⟩,aJ⟩:=hl;obtain⟨om,aB⟩:∃om,l[m]?=some om:=by
  cases h:l[m]? with
  | none=>rw[h]at aL;cases aL
  | some om=>exact⟨om,rfl⟩
 rw[aB]at aL;simp only[Bool.and_eq_true]at aL;obtain⟨⟨aF,bS⟩,bR⟩:=aL;have bT:om.dst=none:=by cases hd:om.dst with|none=>rfl|some d=>rw[hd]at aF;cases aF
 obtain⟨ea,aT,aS,aR⟩:=Fw bS;obtain⟨ef,aQ,aP,aO⟩:=Fw bR;obtain⟨oa,aC⟩:∃oa,l[ia]?=some oa:=⟨_,List.getElem?_eq_getElem ac⟩;obtain⟨ob,aE⟩:∃ob,l[ib]?=some ob:=⟨_,List.getElem?_eq_getElem ac⟩;obtain⟨of,aM⟩:∃of,l[fa]?=some of:=⟨_,List.getElem?_eq_getElem ac⟩;rw[aC]at bH;obtain⟨eb,bD,bC,bB⟩:=Fw bH;have bF:∀(L:Nat->Bool),(∀(k:Nat) (o':Oper),L k=true->l.toArray[k]?=some o'->∀e∈o'.after,Region.binds .any e=true->L e.on=true)->L ia=true->∀d k,m-k<=d->k<m->k≠fa->L k=true:=fun L aU aG d=>by
  induction d with
  | zero=>intro k h1 h2;omega
  | succ d ih=>
   intro k h1 h2 h3;by_cases e:k=ia
   .rw[e];exact aG
   .have:=List.all_eq_true.1 aJ k (List.mem_range.2 h2);simp only[Bool.or_eq_true,beq_iff_eq]at this;rcases this with (h|h)|h
    .exact absurd h h3
    .exact absurd h e
    .obtain⟨k',bO,h⟩:=List.any_eq_true.1 h;simp only[Bool.and_eq_true,decide_eq_true_eq,bne_iff_ne,ne_eq]at h;obtain⟨⟨h4,h5⟩,h6⟩:=h;have aZ:=List.mem_range.1 bO;have bU:=ih k' ac aZ h5;obtain⟨o',aI⟩:∃o',l[k']?=some o':=⟨_,List.getElem?_eq_getElem ac⟩;rw[aI]at h6;obtain⟨e1,g1,g2,g3⟩:=Fw h6;have:=aU k' o' bU (by simpa using aI) e1 g1 g3;rw[g2]at this;exact this
 refine Db (Z8 pv w ib ia fa m u T A Fin) hm hB ⟨fun k h=>di,fun _=>(Ex.refl w).drew,fun h=>di,fun h=>di,fun h=>di⟩ ?_ ?_
 .have bK:∀(l':List Oper) (k0:Nat),(∀i o,l'[i]?=some o->l[k0+i]?=some o)->AG (Ev P Q l a0 pv w ib ia fa m) l' k0->AG (Uz P Q (Z8 pv w ib ia fa m u T A Fin) l.toArray a0) l' k0:=fun l'=>by
   induction l' with
   | nil=>intro _ _ _;trivial
   | cons o l' ih=>
    intro k0 aK h;refine⟨?_,ih (k0+1) (fun i o' hi=>by rw[show k0+1+i=k0+(i+1) from ac];exact aK (i+1) o' hi) h.2⟩;intro L V a w' hf hj hi hd aU K hK;have aA:l[k0]?=some o:=by have:=aK 0 o rfl;simpa using this
    have hk0:k0<l.length:=(List.getElem?_eq_some_iff.1 aA).1;have bA:∀k t o',L k=true->k<m->k≠ib->k≠ia->l[k]?=some o'->o'.dst=some t->a.tmps[t]?=some (pv k):=fun k t o' hk h1 h2 h3 aI bE=>by
     rw[<-hj.vals k hk h1 h2 h3];exact hf.in_ k t hk aI bE
    have aD:∀k t o',(o.after.any fun e=>e.on==k&&Region.binds .any e)=true->k<m->k≠ib->k≠ia->l[k]?=some o'->o'.dst=some t->a.tmps[t]?=some (pv k):=fun k t o' hk h1 h2 h3 aI bE=>by
     obtain⟨e,g1,g2,g3⟩:=Fw hk;exact bA k t o' (by have:=hd e g1 g3;rw[g2]at this;exact this) h1 h2 h3 aI bE
    have aW:k0≠fa->k0≠m->L ia=false:=fun h1 h2=>AX fun hb=>by
     have:=bF L aU hb _ k0 (Nat.le_refl _) ac h1;rw[hi]at this;cases this
    have aV:L m=false:=by
     by_cases e:k0=m
     .rw[<-e];exact hi
     .refine AX fun hb=>?_;by_cases e2:k0=fa
      .have:=aU m om hb (by simpa using aB) ef aQ aO;rw[aP,<-e2,hi]at this;cases this
      .have:=aU m om hb (by simpa using aB) ea aT aR;rw[aS,aW e2 e]at this;cases this
    have h1:=h.1 L a w' bA (fun t ht=>hf.out_ t ht) hd K;by_cases e1:k0=fa
    .rw[if_pos e1]at h1;refine h1 (hK (pv k0) _ ⟨fun k hk a1 a2 a3=>?_,fun hh=>?_,fun hh=>?_,fun h2 h3=>?_,fun h2=>?_⟩)
     .exact zaH
     .rw[Ae _ _ ac]at hh;exact hj.ex hh
     .rw[Ae _ _ ac]at hh ⊢;obtain⟨B,g1,g2⟩:=hj.vb hh;exact⟨B,g1,fun g3=>g2 (by rw[Ae _ _ ac]at g3;exact g3)⟩
     .rw[Ae _ _ ac]at h2 h3 ⊢;exact hj.va h2 h3
     .exact zaX
    .rw[if_neg e1]at h1;by_cases e2:k0=m
     .rw[e2,aB]at aA;injection aA with aA;have aG:L ia=true:=by
       have:=hd ea (by rw[<-aA];exact aT) aR;rw[aS]at this;exact this
      have bQ:L fa=true:=by
       have:=hd ef (by rw[<-aA];exact aQ) aO;rw[aP]at this;exact this
      rw[<-aA];refine Bd om oa of a w' (V ia) K aB aC aM (hj.va aG aV) (fun t ht=>hf.in_ ia t aG aC ht) (fun t ht=>bA fa t of bQ ac ac ac aM ht) fun w2 bL=>?_;rw[aA];refine hK undef _ ⟨fun k hk a1 a2 a3=>?_,fun hh=>?_,fun hh=>?_,fun h2 h3=>?_,fun h2=>?_⟩
      .exact zaO
      .rw[Ae _ _ ac,aG]at hh;cases hh
      .rw[Ae _ _ ac]at hh ⊢;obtain⟨B,g1,g2⟩:=hj.vb hh;exact⟨B,g1,fun g3=>by rw[Ae _ _ ac,aG]at g3;cases g3⟩
      .rw[e2,Ad]at h3;cases h3
      .rw[Ae _ _ ac,Ae _ _ ac];exact⟨aG,bL⟩
     .have aX:=aW e1 e2;have aN:=hj.ex aX;by_cases e3:k0=ia
      .rw[e3,aC]at aA;injection aA with aA;have bJ:L ib=true:=by
        have:=hd eb (by rw[<-aA];exact bD) bB;rw[bC]at this;exact this
       obtain⟨B,g1,g2⟩:=hj.vb bJ;rw[<-aA];rw[<-aA]at aD;refine ha oa ob a w' B K aC aE aN (fun t ht=>by rw[<-g1];exact hf.in_ ib t bJ aE ht) (g2 aX) aD fun v w2 hA=>?_;rw[aA];refine hK v _ ⟨fun k hk a1 a2 a3=>?_,fun hh=>?_,fun hh=>?_,fun h2 h3=>?_,fun h2=>?_⟩
       .exact zaO
       .rw[e3,Ad]at hh;cases hh
       .rw[Ae _ _ ac];exact⟨B,g1,fun g3=>by rw[e3,Ad]at g3;cases g3⟩
       .rw[e3,Ad];exact hA
       .exact zaX
      .by_cases e4:k0=ib
       .rw[e4,aE]at aA;injection aA with aA;rw[<-aA]at aD;rw[<-aA];refine hb ob a w' K aE aN aD ?_;rw[aA];refine hK (.slice (some ⟨w'.heap.size,0,none⟩) 1 1) _ ⟨fun k hk a1 a2 a3=>?_,fun hh=>?_,fun hh=>?_,fun h2 h3=>?_,fun h2=>?_⟩
        .exact zaO
        .exact aN.alloc _
        .rw[e4,Ad];exact⟨_,rfl,fun _=>by show(w'.heap.push _)[w'.heap.size]?=_;rw[Array.getElem?_push_size]⟩
        .rw[Ae _ _ ac,aX]at h2;cases h2
        .exact zaX
       .rw[if_neg ac,if_neg e4]at h1;refine h1 aN fun w2 bG=>hK (pv k0) _ ⟨fun k hk a1 a2 a3=>?_,fun hh=>?_,fun hh=>?_,fun h2 h3=>?_,fun h2=>?_⟩
        .exact zaH
        .exact aN.trans bG
        .rw[Ae _ _ ac]at hh ⊢;obtain⟨B,g1,g2⟩:=hj.vb hh;exact⟨B,g1,fun g3=>TO bG (g2 aX)⟩
        .rw[Ae _ _ ac,aX]at h2;cases h2
        .exact zaX
  exact bK l 0 (fun i o h=>by rw[Nat.zero_add];exact h) hs
 .intro L V w' aH hj;obtain⟨aG,hF⟩:=hj.fin (aH m ac);obtain⟨B,bV,-⟩:=hj.vb (aH ib ac);have bM:∀i,i<m->aY B (V ia) i=Ax (Ax pv ib (.slice (some ⟨B,0,none⟩) 1 1)) ia (V ia) i:=fun i hi=>by
   have:=congrArg (fun L=>L[i]?) (bN B (V ia));simpa[hi]using this
  have hp:BU l V 0 a0=BU l (aY B (V ia)) 0 a0:=EF l 0 V _ a0 fun i o hi hd=>by
   rw[Nat.zero_add];have bP:i<l.length:=(List.getElem?_eq_some_iff.1 hi).1;have bI:i<m:=by
    refine Nat.lt_of_le_of_ne ac fun e=>hd ?_;rw[e,aB]at hi;injection hi with hi;rw[<-hi];exact bT
   rw[bM i bI];by_cases e1:i=ia
   .rw[e1,Ad]
   .rw[Ae _ _ e1];by_cases e2:i=ib
    .rw[e2,Ad];exact bV
    .rw[Ae _ _ e2];by_cases e3:i=m
     .omega
     .exact hj.vals i (aH i bP) bI e2 e1
  rw[hp];exact he B (V ia) w' hF
end
def Zd(l:List Oper)(pv:Nat->Value)(a0:Act)(m ib ia:Nat)(o:Oper)(t:Nat):Option Value:=match VF l 0 t with
 | some j=>if (decide (j<m)&&j !=ib&&j !=ia&&(o.after.toList.any fun e=>e.on==j&&Region.binds .any e))=true then some (pv j) else none
 | none=>a0.tmps[t]?
section
variable {P:Program} {Q:Exit->Act->World->Prop} {a0:Act} {l:List Oper} {pv:Nat->Value} {wr:World} {ib ia fa m i:Nat} {o:Oper}
theorem Qm{L:Nat->Bool}{a:Act}(aB:∀k t o',L k=true->k<m->k≠ib->k≠ia->l[k]?=some o'->o'.dst=some t->a.tmps[t]?=some (pv k))(aA:∀t,(l.all fun o=>o.dst !=some t)=true->a.tmps[t]?=a0.tmps[t]?)(hd:∀e∈o.after,Region.binds .any e=true->L e.on=true):
  ∀t v,Zd l pv a0 m ib ia o t=some v->a.tmps[t]?=some v:=fun t v hv=>by
 unfold Zd at hv
 cases hj:VF l 0 t with
 | none=>rw[hj]at hv;rw[aA t (Jw l 0 t hj)];exact hv
 | some j=>
  rw[hj]at hv;obtain⟨o',_,h2,h3⟩:=Jv l 0 t j hj;simp only at hv;split at hv
  .rename_i h4;injection hv with hv;simp only[Bool.and_eq_true,decide_eq_true_eq,bne_iff_ne,ne_eq]at h4;obtain⟨e,he,h5⟩:=List.any_eq_true.1 h4.2;have he:=Array.mem_toList_iff.1 he;rw[Bool.and_eq_true,beq_iff_eq]at h5;have hL:=hd e he h5.2;rw[h5.1]at hL;rw[<-hv];exact aB j t o' hL h4.1.1.1 h4.1.1.2 h4.1.2 h2 h3
  .cases hv
theorem Ev.go(hi:¬i=fa/\¬(i=m∨i=ia)/\¬i=ib)(h:∀(a:Act) (w:World),(∀t v,Zd l pv a0 m ib ia o t=some v->a.tmps[t]?=some v)->Ex wr w->∀K:Act->World->Prop,(∀w',Ex w w'->K (a.put o.dst (pv i)) w')->o.wp P a w K Q):Ev P Q l a0 pv wr ib ia fa m i o:=by
 intro L a w aB aA hd K;rw[if_neg hi.1,if_neg hi.2.1,if_neg hi.2.2];intro hx hK;exact h a w (Qm aB aA hd) hx K hK
theorem Ev.gf(hi:i=fa)(h:∀(a:Act) (w:World),(∀t v,Zd l pv a0 m ib ia o t=some v->a.tmps[t]?=some v)->∀K:Act->World->Prop,K (a.put o.dst (pv i)) w->o.wp P a w K Q):Ev P Q l a0 pv wr ib ia fa m i o:=by
 intro L a w aB aA hd K;rw[if_pos hi];intro hK;exact h a w (Qm aB aA hd) K hK
theorem Ev.sk(hi:¬i=fa/\(i=m∨i=ia∨i=ib)):Ev P Q l a0 pv wr ib ia fa m i o:=by
 intro L a w hin hout hd K;rw[if_neg hi.1];by_cases h:i=m∨i=ia
 .rw[if_pos h];trivial
 .have hb:i=ib:=by
   rcases hi.2 with e|e|e
   .exact absurd (.inl e) h
   .exact absurd (.inr e) h
   .exact e
  rw[if_neg h,if_pos hb];intro _;trivial
end
section
variable {P:Program} {Q:Exit->Act->World->Prop} {a0:Act} {l:List Oper} {pv:Nat->Value} {wr:World} {ia m i:Nat} {o:Oper} {A Fin:Value->World->Prop}
end
noncomputable section
def Yg(f:List Bool->Bool)(l:List (List Bool)):Bool:=@List.rec (List Bool) (fun _=>Bool) true (fun x _ ih=>match f x with|true=>ih|false=>false) l
def ZS(p d u:Nat)(low:List Nat):Bool:=Nat.beq (N7 p (Nx p (Gr p d u) (Gr p d 0) (Gr p d 1) (low ++ [1]))) 0
def YO(p m g:Nat)(b1:List Bool)(D:List (List Bool))(low:List Nat):Bool:=
 match Nat.beq (Xj p m low (Gr p m 0) g b1 1) 1 with
 | true=>Yg (fun b=>match Nat.beq (Xj p m low (Gr p m 0) g b 1) 1 with|true=>false|false=>true) D
 | false=>false
def T7(p m:Nat)(b1:List Bool)(D:List (List Bool))(t:Nat)(low:List Nat):Bool:=
 match Nat.beq (Nat.mod t 2) 0 with
 | true=>ZS p (Nat.mod (Nat.div t 2) 8) (Nat.div t 16) low
 | false=>YO p m (Nat.div t 2) b1 D low
def Ef(p m:Nat)(b1:List Bool)(D:List (List Bool))(T:List Nat):Nat->Bool:=
 @List.rec Nat (fun _=>Nat->Bool) (fun _=>true) (fun t _ ih v=>match T7 p m b1 D t (Gr p m v) with|true=>ih (Nat.succ v)|false=>false) T
theorem ak{P:Prop}(h:P:=by decide +kernel):P:=h
theorem U5:Ef 2 2 [true,true] [[true]] [2,18,2,5] 0=true:=ak
theorem U4:Ef 2 3 [true,true,true] [[true]] [2,18,2,5,2,5,2,18] 0=true:=ak
theorem U2:Ef 2 4 [true,true,true,true] [[true,false,true], [true,true]] [2,18,2,5,2,52,2,18,2,5,2,18,2,18,2,7] 0=true:=ak
theorem U1:Ef 2 5 [true,true,true,true,true] [[true]] [2,18,2,52,2,5,2,18,2,5,2,18,2,18,2,5,2,52,2,18,2,18,2,5,2,18,2,5,2,5,2,18] 0=true:=ak
theorem U0:Ef 2 6 [true,true,true,true,true,true] [[true,false,true,false,true], [true,false,false,true]] [2,18,2,5,2,54,2,18,2,7,2,18,2,18,2,52,2,86,2,18,2,18,2,7,2,18,2,5,2,52,2,18,2,5,2,18,2,18,2,5,2,18,2,52,2,5,2,18,2,18,2,5,2,7,2,18,2,52,2,18,2,18,2,54] 0=true:=ak
theorem UZ:Ef 2 7 [true,true,true,true,true,true,true] [[true]] [2,18,2,5,2,52,2,18,2,5,2,18,2,18,2,5,2,5,2,18,2,18,2,52,2,18,2,86,2,5,2,18,2,52,2,18,2,18,2,5,2,18,2,5,2,54,2,18,2,18,2,52,2,86,2,18,2,5,2,18,2,18,2,5,2,5,2,18,2,18,2,86,2,18,2,5,2,52,2,18,2,18,2,5,2,5,2,18,2,54,2,18,2,18,2,52,2,18,2,54,2,5,2,18,2,52,2,18,2,18,2,5,2,5,2,18,2,18,2,5,2,18,2,52,2,5,2,18] 0=true:=ak
theorem UY:Ef 2 8 [true,true,true,true,true,true,true,true] [[true,false,true,false,true,false,true], [true,true,false,false,true,true], [true,true,true,true]] [2,18,2,52,2,56,2,18,2,54,2,18,2,18,2,86,2,52,2,18,2,18,2,152,2,18,2,7,2,5,2,18,2,86,2,18,2,18,2,52,2,18,2,5,2,5,2,18,2,18,2,54,2,52,2,18,2,7,2,18,2,18,2,7,2,152,2,18,2,18,2,54,2,18,2,52,2,5,2,18,2,18,2,86,2,248,2,18,2,52,2,18,2,18,2,5,2,18,2,5,2,5,2,18,2,5,2,18,2,18,2,52,2,5,2,18,2,18,2,7,2,18,2,19,2,52,2,18,2,52,2,18,2,18,2,5,2,18,2,13,2,5,2,18,2,18,2,52,2,54,2,18,2,86,2,18,2,18,2,7,2,18,2,7,2,52,2,18,2,5,2,18,2,18,2,54,2,13,2,18,2,18,2,52,2,18,2,56,2,15,2,18,2,18,2,5,2,86,2,18,2,52,2,18,2,18,2,5,2,56,2,18,2,18,2,15,2,18,2,52,2,13,2,18,2,54,2,18,2,18,2,5,2,18,2,86,2,52,2,18,2,18,2,13,2,5,2,18,2,7,2,18,2,18,2,52] 0=true:=ak
theorem UX:Ef 3 2 [true,false,false,false] [[true,false,false]] [2,9,18,2,34,7,2,18,7] 0=true:=ak
theorem UW:Ef 3 3 [true,true,false,true,false] [[true,true,false,true], [true,false]] [2,18,34,2,34,18,2,7,13,2,34,11,2,18,9,2,7,18,2,7,18,2,7,34,2,18,9] 0=true:=ak
theorem UV:Ef 3 4 [true,false,true,false,false,false,false] [[true,false,true,false,false,false], [true,false,false,false,false]] [2,84,18,2,34,7,2,18,7,2,18,25,2,9,18,2,11,34,2,20,9,2,18,34,2,34,18,2,34,7,2,18,20,2,9,18,2,21,18,2,11,34,2,18,7,2,18,34,2,34,18,2,132,7,2,18,7,2,9,18,2,34,20,2,21,34,2,18,7,2,9,18,2,34,18,2,84,7,2,18,34] 0=true:=ak
theorem UU:Ef 3 5 [true,true,true,true,false,false,true,false] [[true,true,true,true,false,false,true], [true,false,true,true,false]] [2,18,34,2,34,18,2,7,13,2,34,132,2,18,9,2,20,18,2,84,18,2,7,34,2,18,20,2,34,18,2,7,13,2,18,34,2,18,9,2,132,18,2,34,13,2,7,34,2,18,84,2,7,18,2,132,84,2,18,34,2,34,18,2,7,18,2,34,11,2,18,9,2,18,9,2,7,18,2,9,34,2,34,11,2,18,9,2,7,18,2,7,18,2,7,34,2,18,9,2,18,34,2,34,18,2,20,132,2,18,20,2,7,18,2,34,84,2,84,34,2,18,132,2,7,18,2,34,18,2,7,13,2,18,34,2,7,18,2,34,20,2,18,13,2,18,9,2,7,18,2,132,34,2,7,13,2,18,34,2,34,18,2,7,18,2,7,34,2,18,11,2,18,34,2,34,18,2,84,20,2,34,11,2,18,9,2,7,18,2,20,34,2,18,9,2,132,18,2,34,18,2,7,13,2,18,34,2,18,132,2,84,18,2,34,11,2,18,9,2,20,18,2,7,34,2,7,13,2,18,34,2,34,18,2,15,18,2,34,11,2,18,84] 0=true:=ak
theorem UT:Ef 5 2 [true,true,false,false,false] [[true,true,false,false], [true,false,false,false]] [2,34,13,15,18,2,15,11,34,50,2,18,50,11,17,2,66,18,11,13,2,13,11,18,34] 0=true:=ak
theorem US:Ef 5 3 [true,true,true,true,true,false,false] [[true,true,true,true,true,false], [true,false,false]] [2,18,50,34,66,2,19,18,66,13,2,13,34,18,15,2,50,11,11,18,2,34,11,11,50,2,15,11,50,34,2,18,66,11,13,2,66,18,34,50,2,13,50,18,17,2,13,34,11,18,2,13,66,11,18,2,66,34,11,15,2,18,11,11,34,2,34,18,50,66,2,50,11,18,17,2,34,11,18,15,2,13,11,34,18,2,50,11,11,66,2,18,34,66,50,2,15,18,11,34,2,50,18,11,13,2,13,11,18,34,2,34,50,66,18,2,15,66,34,19,2,18,11,50,13] 0=true:=ak
theorem UR:Ef 7 2 [true,true,false,false,false,false] [[true,true,false,false,false], [true,false,false,false,false]] [2,19,17,34,17,50,18,2,50,66,15,21,34,21,2,18,21,15,50,15,66,2,23,18,66,82,15,23,2,17,82,18,34,15,17,2,98,17,15,18,15,34,2,34,50,15,19,18,19] 0=true:=ak
theorem Ss:Ef 11 2 [true,true,true,true,false,false,false] [[true,true,true,true,false,false], [true,false,true,false,false,false], [true,true,false,false,false]] [2,31,50,27,29,25,66,34,82,27,18,2,31,82,98,27,50,27,23,23,34,66,2,18,33,66,29,31,23,82,50,98,29,2,82,18,33,98,114,23,66,23,25,25,2,114,23,18,34,35,82,23,33,25,98,2,25,23,27,18,98,34,35,114,130,25,2,25,23,27,114,18,130,25,34,50,37,2,50,23,130,146,27,18,23,25,29,34,2,34,146,27,50,66,23,18,23,25,29,2,162,29,34,25,27,23,50,18,66,25,2,29,66,82,25,34,25,23,23,18,50] 0=true:=ak
theorem Sr:Ef 13 2 [true,false,true,false,true,false,false,false] [[true,false,true,false,true,false,false], [true,true,true,false,false,false], [true,true,false,false,false]] [2,82,31,98,50,29,29,31,35,34,66,31,18,2,66,27,35,31,31,82,50,35,98,114,34,35,2,18,98,33,114,66,27,27,33,37,50,82,33,2,37,18,82,29,37,27,27,98,66,37,114,130,2,98,27,18,34,114,27,130,82,29,29,27,39,2,39,130,146,18,39,34,98,31,39,29,27,114,2,31,27,29,41,18,114,27,34,50,130,27,146,2,33,27,31,29,130,18,27,146,162,34,27,50,2,29,50,66,146,29,162,18,33,29,31,27,34,2,34,27,162,178,50,27,66,18,35,29,27,31,2,31,178,34,35,31,27,27,50,18,31,66,82,2,194,66,29,82,34,27,27,29,33,18,50,29,2,50,27,33,29,29,66,34,33,82,98,18,33] 0=true:=ak
end
theorem XD{q p:Int}(hp:1<=p):256/p<q↔256<q*p:=by
 constructor
 .intro h;exact Int.lt_mul_of_ediv_lt ac h
 .intro h;exact Int.ediv_lt_of_lt_mul ac h
theorem Gg(p m:Int)(mv:Value)(w:World):
  Calls Tryz.prog 14 #[.agg #[.int .i64 p,.int .i64 m,mv]] w fun r w'=>r= .returned (.int .i64 (CJ p m))/\Ex w w':=by
 obtain⟨xb,aA⟩:=nA w.heap.size;have d0:(w.alloc (.cells #[.int .i64 p,.int .i64 m,mv] 24)).cell? ⟨xb,0,none⟩=some (.int .i64 p):=by rw[<-aA];simp
 have d1:(w.alloc (.cells #[.int .i64 p,.int .i64 m,mv] 24)).cell? ⟨xb,1,none⟩=some (.int .i64 m):=by rw[<-aA];simp
 have e0:Ex w (w.alloc (.cells #[.int .i64 p,.int .i64 m,mv] 24)):=(Ex.refl _).alloc _;have D0:=Aa d0;have D1:=Aa d1;clear d0 d1;by_cases h:2<=p/\1<=m/\m<=8
 .obtain⟨h1,h3,h4⟩:=h;have HO:=Aa (show CJ p m=if p^m.toNat<=256 then p^m.toNat else 0 by unfold CJ;by_cases h:p^m.toNat<=256 <;> simp[h,h1,h3,h4]);go_enter Tryz.func14,Tryz.ntmps14
  have d0:=D0.o;have d1:=D1.o
  go_wp2
  clear aA D0 D1;generalize w.alloc (.cells #[.int .i64 p,.int .i64 m,mv] 24)=w1 at *
  go_loop [3,4] (fun q' i'=>∃i:Nat,i<=m.toNat/\i'= .int .i64 i/\q'= .int .i64 (p^i)/\1<=p^i/\p^i<=256) (fun _ i'=>m.toNat-(intOf i').toNat)
  case atStart=>exact⟨0,ac,rfl,ag,ag,ag⟩
  case round=>
   obtain⟨i,hi,rfl,rfl,q1,q2⟩:=hrel;have HS:=Aa (Int.pow_succ p i);have HM:=Aa (show i<m.toNat->p^(i+1)<=p^m.toNat from fun h=>Hh h1 h);have HG:=Aa (XD (q:=p^i) (show 1<=p by omega));have q4:1<=p^i*p:=by
    exact zcw
   have e1:=Int.ediv_nonneg (show(0:Int)<=256 by omega) (show 0<=p by omega);have e2:256/p<=256:=Int.ediv_le_self _ ac;by_cases hlt:(i:Int)<m
   .by_cases hq:256<p^i*p
    .have HB:=HM.o ac;rw[HS.o]at HB;have HN:=Aa (show ¬p^m.toNat<=256 by omega);have hg:=HG.o.2 hq;clear HB HM HG;generalize p^i=y at *
     go_wp2
     go_ret;exact⟨Ag (by rw[HO.o,if_neg (by have:=HN.o;omega)]),e0⟩
    .have HE:=Aa (show p^(i+1)=p^i*p from HS.o);have hg:¬256/p<p^i:=fun h=>hq (HG.o.1 h);have hg':p^i<=256/p:=by omega
     clear HM HS HG hg;exact zbl
   .have aB:i=m.toNat:=by omega
    have HN:=Aa (show p^m.toNat=p^i by rw[aB]);clear HM HS HG;generalize p^i=y at *
    go_wp2
    go_ret;exact⟨Ag (by rw[HO.o,HN.o,if_pos q2]),e0⟩
 .have HO:=Aa (show CJ p m=0 by
   unfold CJ;rw[if_neg];rintro⟨h1,h2,h3,h4⟩;exact h ⟨h1,h2,h3⟩)
  have c:p<2∨(2<=p/\m<1)∨(2<=p/\1<=m/\8<m):=ac;clear h;rcases c with c|⟨c1,c2⟩|⟨c1,c2,c3⟩
  all_goals
   go_enter Tryz.func14,Tryz.ntmps14
   have d0:=D0.o;have d1:=D1.o
   go_wp2
   go_ret;exact⟨Ag HO.o.symm,e0⟩
theorem Vr{n:Nat}(hn:2<=n):Hg n=true↔∀d,2<=d->d<n->n%d≠0:=by
 unfold Hg;rw[decide_eq_true_iff];exact⟨fun h d a b=>h.2 d b a,fun h=>⟨hn,fun d a b=>h d b a⟩⟩
theorem OV(n:Nat)(w:World)(h1:2<=n)(h2:n<=256):
  Calls Tryz.prog 118 #[.int .i64 n] w fun r w'=>r= .returned (.bool (Hg n))/\w=w':=by
 have HI:=Aa (Vr h1);go_enter Tryz.func118,Tryz.ntmps118
 go_wp2
 go_loop [3] (fun d'=>∃d:Nat,2<=d/\d<=n/\d'= .int .i64 d/\Hia (∀c,2<=c->c<d->n%c≠0)) (fun d'=>n-(intOf d').toNat)
 case atStart=>exact⟨2,ac,ac,rfl,Aa (fun c a b=>ac)⟩
 case round=>
  obtain⟨d,d1,d2,rfl,aA⟩:=hrel;by_cases hlt:d<n
  .by_cases hd:n%d=0
   .have aB:((n:Int)%(d:Int)==0)=true:=by simp;omega
    have HR:=Aa (show Hg n=false by
     rw[<-Bool.not_eq_true];exact fun h=>HI.o.1 h d d1 hlt hd)
    clear hd;exact zcS
   .have aB:((n:Int)%(d:Int)==0)=false:=by simp;omega
    have HA:=Aa (show ∀c,2<=c->c<d+1->n%c≠0 from fun c a b=>by
     by_cases e:c=d
     .subst e;exact hd
     .exact aA.o c a ac)
    clear hd;exact zbH
  .have HR:=Aa (HI.o.2 fun c a b=>aA.o c a ac);exact zcS
theorem Nn(x p m:Nat)(w:World)(hx:x<=65536)(hp:1<=p)(hp':p<=256)(hm:m<=256):
  Calls Tryz.prog 171 #[.int .i64 x,.int .i64 p,.int .i64 m] w fun r w'=>∃v,r= .returned v/\(∃g,v= .slice (some ⟨g,0,none⟩) m m/\w.heap.size<=g/\AI w' w.heap.size 3 g m (iv (Bt p m x)))/\Ex w w':=by
 go_enter Tryz.func171,Tryz.ntmps171
 go_wp2_with (at_make;refine Aq _ rfl _ _ 22 rfl 3 (.int .i64 0) 8 Tryz.underlying22 Au rfl _ m rfl rfl rfl ac ai ?_)
 intro w1 aA aD;obtain⟨g,hg⟩:=nA w.heap.size;have aB:AI w1 g 3 g m (iv fun j=>if j<0 then Bt p m x j else 0):=by
  rw[hg]at aA;exact aA.congr fun j _=>by simp[iv]
 have HG:=Aa hg;simp only[hg];clear aA hg;go_wp2_with fail
 go_loopw [0,8] (fun x' k' wr=>∃k:Nat,k<=m/\k'= .int .i64 k/\x'= .int .i64 ((x/p^k:Nat):Int)/\AI wr g 3 g m (iv fun j=>if j<k then Bt p m x j else 0)/\Ex w wr) (fun _ k' _=>m-(intOf k').toNat)
 case atStart=>exact⟨0,ac,rfl,ag,aB,aD⟩
 case round=>
  clear aB aD;obtain⟨k,hk,rfl,rfl,aA,aD⟩:=hrel;have hxk:x/p^k<=65536:=Nat.le_trans (Nat.div_le_self _ _) hx;have HS:=Aa (show x/p^(k+1)=x/p^k/p by rw[Nat.pow_succ,Nat.div_div_eq_div_mul]);have HD:=Aa (show k<m->Bt p m x k=((x/p^k%p:Nat):Int) from fun h=>by unfold Bt;rw[if_pos h]);generalize x/p^k=y at *;by_cases hlt:k<m
  .exact zag
  .obtain rfl:k=m:=by omega
   have aC:AI wr g 3 g k (iv (Bt p k x)):=aA.icongr fun j hj=>by rw[if_pos hj]
   have HO:=Aa aC;clear aA aC HD HS;go_wp2_with fail
   go_ret;exact⟨_,rfl,⟨g,rfl,by rw[HG.o];exact Nat.le_refl _,by rw[HG.o];exact HO.o⟩,aD⟩
theorem Bc(w:World)(p m:Int)(mv:Value):(w.alloc (.cells #[.int .i64 p,.int .i64 m,mv] 24)).cell? ⟨w.heap.size,0,none⟩=some (.int .i64 p)/\
  (w.alloc (.cells #[.int .i64 p,.int .i64 m,mv] 24)).cell? ⟨w.heap.size,1,none⟩=some (.int .i64 m)/\
  (w.alloc (.cells #[.int .i64 p,.int .i64 m,mv] 24)).cell? ⟨w.heap.size,2,none⟩=some mv/\Ex w (w.alloc (.cells #[.int .i64 p,.int .i64 m,mv] 24))/\
  (w.alloc (.cells #[.int .i64 p,.int .i64 m,mv] 24)).heap.size=w.heap.size+1:=
 ⟨ag,ag,ag,(Ex.refl _).alloc _,ag⟩
def Zf(p m x:Int):Bool:=decide (0<=x/\x<CJ p m)
theorem Vn(p m x:Int)(mv:Value)(w:World):
  Calls Tryz.prog 200 #[.agg #[.int .i64 p,.int .i64 m,mv],.int .i64 x] w fun r w'=>r= .returned (.bool (Zf p m x))/\Ex w w':=by
 obtain⟨d0,d1,d2,e0,_⟩:=Bc w p m mv;have HO:=Aa (fun w=>Gg p m mv w);have HI:=Aa (show Zf p m x=decide (0<=x/\x<CJ p m) from rfl);generalize CJ p m=q at *;by_cases h0:0<=x
 .go_enter Tryz.func200,Tryz.ntmps200
  go_wp2_with fail
  generalize w.alloc (.cells #[.int .i64 p,.int .i64 m,mv] 24)=w1 at *;refine(HO.o _).mono ?_;rintro e w2⟨rfl,hx⟩;go_wp2_with fail
  go_ret;exact⟨Ao (by rw[HI.o];simp[h0]),e0.trans hx⟩
 .go_enter Tryz.func200,Tryz.ntmps200
  go_wp2_with fail
  go_ret;exact⟨Ao (by rw[HI.o];simp;omega),e0⟩
theorem Li.ord{p m:Nat}{ml:List Int}(h:Li p m ml):CJ p m=((p^m:Nat):Int):=by
 obtain⟨a,b,c,d,e,f⟩:=h;exact zbt
section
variable {p m:Nat} {ml:List Int} {mv:Value}
end
section
variable {p m:Nat} {ml:List Int} {mv:Value}
theorem XC{n:Nat}{f:Nat->Int}{z:Int}(h:z∈il n f):∃j,j<n/\f j=z:=by
 obtain⟨j,hj,rfl⟩:=List.mem_map.1 h;exact⟨j,List.mem_range.1 hj,rfl⟩
end
section
variable {p m:Nat} {ml:List Int} {mv:Value}
end
section
variable {p m:Nat} {ml:List Int} {mv:Value}
end
theorem EG{w:World}{base b':Nat}{e:TypeId}{size:Nat}{v:Value}{n:Nat}{xs:List Value}(h:w.ownsRow base e size v n xs)(hb:b'<=base):w.ownsRow b' e size v n xs:=by
 obtain⟨h1,h2⟩:=h;refine⟨h1,?_⟩;rcases h2 with h2|⟨g,cap,cur,a,b,c⟩
 .exact .inl h2
 .exact .inr ⟨g,cap,cur,a,Nat.le_trans hb b,c⟩
section
variable {m e0 b0:Nat} {w0 w:World} {v0:Value} {te:TypeId} {size n:Nat} {xs:List Value} {L:Nat->Bool} {V:Nat->Value} {w' w'':World}
theorem Fv{u v:Value}{N:Nat}(h1:∀B,u.ownBlock=some B->N<=B)(h2:∀B,v.ownBlock=some B->B<N):AJ u v:=by
 unfold AJ
 cases hu:u.ownBlock with
 | none=>exact .inl rfl
 | some B=>
  right;intro e;have:=h1 B hu;have:=h2 B e.symm;omega
variable {l:List Oper} {i:Nat} {u:Value}
end
section
variable {P:Program} {Q:Exit->Act->World->Prop} {l:List Oper} {a0:Act} {m e0 b0:Nat} {w0 w:World} {v0:Value} {te:TypeId} {size n:Nat} {xs:List Value} {i:Nat} {o:Oper}
end
end Go.Proofs.YtehieobniamagaaGreat
