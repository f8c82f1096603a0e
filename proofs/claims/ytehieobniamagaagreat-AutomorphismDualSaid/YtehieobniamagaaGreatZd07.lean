/- The values of a long region whose operations fill one slot after the other. -/
import Derived.RegionTactic
import Derived.BigRegion
import Derived.Test.YtehieobniamagaaGreatZd06
namespace Go.Proofs.YtehieobniamagaaGreat
open Go.RowKit
set_option linter.all false
set_option maxRecDepth 100000
set_option maxHeartbeats 4000000
def N8:List Oper->Nat->Bool
 | [],_=>true
 | o :: l,s=>(o.dst==some s)&&N8 l (s+1)
theorem Sb:∀(A:List Value) (x v:Value) (C:List Value),(A++x :: C).set A.length v=A++v :: C
 | [],x,v,C=>rfl
 | a :: A,x,v,C=>by
  show a :: (A++x :: C).set A.length v=_
  rw[Sb A x v C];rfl
def OO(V:Nat->Value):Nat->Nat->List Value
 | _,0=> []
 | k,n+1=>V k :: OO V (k+1) n
theorem Pa:∀(l:List Oper) (V:Nat->Value) (k:Nat) (A B C:List Value) (D:List Deferred),B.length=l.length->N8 l A.length=true->Ck l V k ⟨(A++(B++C)).toArray,D⟩=⟨(A++(OO V k l.length++C)).toArray,D⟩
 | [],V,k,A,B,C,D,hB,_=>by
  have:B= []:=List.length_eq_zero_iff.1 hB;subst this;rfl
 | o :: l,V,k,A, [],C,D,hB,_=>by simp at hB
 | o :: l,V,k,A,x :: B,C,D,hB,h=>by
  unfold N8 at h;rw[Bool.and_eq_true,beq_iff_eq]at h;have e:Act.put ⟨(A++(x :: B++C)).toArray,D⟩ o.dst (V k)=⟨((A ++ [V k])++(B++C)).toArray,D⟩:=by
   rw[h.1];show Act.mk ((A++(x :: B++C)).toArray.setIfInBounds A.length (V k)) D=_
   congr 1
   rw[List.setIfInBounds_toArray];have:=Sb A x (V k) (B++C);rw[show x :: B++C=x :: (B++C) from rfl,this];simp
  show Ck l V (k+1) (Act.put ⟨(A++(x :: B++C)).toArray,D⟩ o.dst (V k))=_
  rw[e,Pa l V (k+1) (A ++ [V k]) B C D (by simpa using hB) (by rw[List.length_append];exact h.2)];show _=Act.mk (A++(V k :: OO V (k+1) l.length++C)).toArray D
  simp
theorem zcr{P:Prop}(h:P:=by
 rw[List.getD_eq_getElem?_getD,List.getElem?_append_right (Nat.le_refl _)];simp):P:=h
theorem JT:∀(vals aA:List Value),OO (fun k=>(aA++vals).getD k undef) aA.length vals.length=vals
 | [],aA=>rfl
 | v :: vals,aA=>by
  show(aA++v :: vals).getD aA.length undef :: OO (fun k=>(aA++v :: vals).getD k undef) (aA.length+1) vals.length=v :: vals
  have h1:(aA++v :: vals).getD aA.length undef=v:=by
   exact zcr
  have h2:=JT vals (aA ++ [v]);rw[List.length_append,List.append_assoc]at h2;rw[h1];exact congrArg (v :: ·) h2
theorem bn{P:Prop}(h:P:=by rw[List.length_take];omega):P:=h
theorem Sk{l:List Oper}{vals a:List Value}{D:List Deferred}{P:Act}(hP:Ck l (fun k=>vals.getD k undef) 0 ⟨a.toArray,D⟩=P)(s t:Nat)(h:(N8 l s&&(vals.length==l.length&&(s+l.length==t&&decide (t<=a.length))))=true):P=⟨(a.take s++(vals++a.drop t)).toArray,D⟩:=by
 simp only[Bool.and_eq_true,beq_iff_eq,decide_eq_true_eq]at h;obtain⟨h1,h2,h3,h4⟩:=h;subst hP;have e:a=a.take s++((a.drop s).take l.length++a.drop t):=by
  rw[<-h3,<-List.drop_drop,List.take_append_drop,List.take_append_drop]
 have h5:(a.take s).length=s:=bn;have h6:((a.drop s).take l.length).length=l.length:=by rw[List.length_take,List.length_drop];omega
 have h7:=Pa l (fun k=>vals.getD k undef) 0 (a.take s) ((a.drop s).take l.length) (a.drop t) D h6 (by rw[h5];exact h1);rw[<-e]at h7;rw[h7,<-h2];have:=JT vals [];simp only[List.nil_append,List.length_nil]at this;rw[this]
def VG:List Oper->Nat->Nat->Option Nat
 | [],_,_=>none
 | o :: l,k,t=>if (o.dst==some t)=true then some k else VG l (k+1) t
theorem Hu:∀(l:List Oper) (k t j:Nat),VG l k t=some j->∃o,k<=j/\l[j-k]?=some o/\o.dst=some t
 | [],k,t,j,h=>by cases h
 | o :: l,k,t,j,h=>by
  unfold VG at h;split at h
  .rename_i h1;injection h with h;subst h;exact⟨o,Nat.le_refl _,by simp,by simpa using h1⟩
  .obtain⟨o',h2,h3,h4⟩:=Hu l (k+1) t j h;refine⟨o',ac,?_,h4⟩;rw[show j-k=(j-(k+1))+1 from ac];exact h3
theorem Hv:∀(l:List Oper) (k t:Nat),VG l k t=none->(l.all fun o=>o.dst !=some t)=true
 | [],k,t,h=>rfl
 | o :: l,k,t,h=>by
  unfold VG at h;split at h
  .cases h
  .rename_i h1;rw[List.all_cons,Hv l (k+1) t h,Bool.and_true];simpa using h1
def lkS(l:List Oper)(pv:Nat->Value)(a0:Act)(o:Oper)(t:Nat):Option Value:=match VG l 0 t with
 | some j=>if (o.after.toList.any fun e=>e.on==j&&Region.binds .any e)=true then some (pv j) else none
 | none=>a0.tmps[t]?
theorem BG.go{P:Program}{Q:Exit->Act->World->Prop}{a0:Act}{l:List Oper}{pv:Nat->Value}{w:World}{i:Nat}{o:Oper}(hw:Hg l pv o=true)
  (h:∀(a:Act) (w':World),(∀t v,lkS l pv a0 o t=some v->a.tmps[t]?=some v)->Ex w w'->∀K:Act->World->Prop,(∀w'',Ex w' w''->K (a.put o.dst (pv i)) w'')->o.wp P a w' K Q):BG P Q l a0 pv w i o:=
 BG.on hw fun L a w' aB aA hd hx K hK=>h a w' (fun t v hv=>by
  unfold lkS at hv
  cases hj:VG l 0 t with
  | none=>
   rw[hj]at hv;rw[aA t (Hv l 0 t hj)];exact hv
  | some j=>
   rw[hj]at hv;obtain⟨o',_,h2,h3⟩:=Hu l 0 t j hj;simp only at hv;split at hv
   .rename_i h4;injection hv with hv;obtain⟨e,he,h5⟩:=List.any_eq_true.1 h4;have he:=Array.mem_toList_iff.1 he;rw[Bool.and_eq_true,beq_iff_eq]at h5;have hL:=hd e he h5.2;rw[h5.1]at hL;rw[<-hv];exact aB j t o' hL h2 h3
   .cases hv) hx K hK
theorem BG.gd{P:Program}{Q:Exit->Act->World->Prop}{a0:Act}{l:List Oper}{pv:Nat->Value}{w:World}{i:Nat}{o:Oper}(c:Bool)
  (h:c=false->∀(a:Act) (w':World),(∀t v,lkS l pv a0 o t=some v->a.tmps[t]?=some v)->Ex w w'->∀K:Act->World->Prop,(∀w'',Ex w' w''->K (a.put o.dst (pv i)) w'')->o.wp P a w' K Q)
  (h1:c=true->Hg l pv o=false/\pv i=undef:=by rintro rfl;exact⟨rfl,rfl⟩) (h2:c=false->Hg l pv o=true:=by rintro rfl;rfl):BG P Q l a0 pv w i o:=by
 cases c with
 | true=>exact BG.off (h1 rfl).1 (h1 rfl).2
 | false=>exact BG.go (h2 rfl) (h rfl)
theorem Sp{A:Sort _}(x:A):∃y,Hia (x=y):=⟨x,rfl⟩
structure RZ(w w':World)(base:Nat)(e:TypeId)(size:Nat)(v v':Value)(n:Nat)(xs news:List Value):Prop where
 own:w'.ownsRow base e size v' (n+1) (xs++news)
 gr:w.grownBy w' v.ownBlock
 at_:v'.ownBlock=v.ownBlock∨v'.ownBlock=some w.heap.size
 old:w.ownsRow base e size v n xs
section
variable {w w':World} {base:Nat} {e:TypeId} {size:Nat} {v v':Value} {n:Nat} {xs news:List Value}
theorem RZ.ex(h:RZ w w' base e size v v' n xs news){a:World}(hx:Ex a w)(hb:a.heap.size<=base):Ex a w':=Ex.grown hx h.old hb h.gr
theorem RZ.cell(h:RZ w w' base e size v v' n xs news){a:Addr}{u:Value}(hc:w.cell? a=some u)(aA:some a.block≠v.ownBlock):w'.cell? a=some u:=h.gr.cell hc aA
theorem RZ.frz(h:RZ w w' base e size v v' n xs news){a:Addr}{u:Value}(hc:w.cell? a=some u)(hf:w.frozen? a=false)(aA:some a.block≠v.ownBlock):w'.frozen? a=false:=by
 have aB:=World.block_lt_of_cell? _ _ hc;rw[<-hf];have h2:=h.gr.block a.block aB aA;unfold World.frozen?;rw[h2]
theorem RZ.row(h:RZ w w' base e size v v' n xs news){b2:Nat}{e2:TypeId}{s2:Nat}{v2:Value}{n2:Nat}{ys:List Value}(k:w.ownsRow b2 e2 s2 v2 n2 ys)(ha:AQ v2 v):
  w'.ownsRow b2 e2 s2 v2 n2 ys/\AQ v2 v':=by
 refine⟨k.kept h.gr ha,?_⟩;exact zcK
end
theorem Sa{w:World}{B:Nat}{x:Value}{t:TypeId}(h:w.heap[B]?=some (.cells #[x] t)):Sl w (.slice (some ⟨B,0,none⟩) 1 1) 1 1 [x]:=
 ⟨rfl,some ⟨B,0,none⟩,1,rfl,Nat.le_refl _,by unfold maxLen;omega,fun _=>⟨B,0,rfl,fun j u hu=>by
  match j,hu with
  | 0,hu=>
   simp at hu;subst hu;rw[Nat.zero_add,cell_of_row w B 0 #[x] t (0,0) h];rfl
  | j+1,hu=>simp at hu⟩⟩
section
variable {P:Program} {Q:Exit->Act->World->Prop} {a0:Act}
def Ik(P:Program)(Q:Exit->Act->World->Prop)(l:List Oper)(a0:Act)(pv:Nat->Value)(wr:World)(ib ia fa m i:Nat)(o:Oper):Prop:=
 ∀(L:Nat->Bool) (a:Act) (w:World),(∀k t o',L k=true->k<m->k≠ib->k≠ia->l[k]?=some o'->o'.dst=some t->a.tmps[t]?=some (pv k))->(∀t,(l.all fun o=>o.dst !=some t)=true->a.tmps[t]?=a0.tmps[t]?)->(∀e∈o.after,Region.binds .any e=true->L e.on=true)->
  ∀K:Act->World->Prop,
   if i=fa then(K (a.put o.dst (pv i)) w->o.wp P a w K Q)
   else if i=m∨i=ia then True
   else if i=ib then(Ex wr w->True)
   else Ex wr w->(∀w',Ex w w'->K (a.put o.dst (pv i)) w')->o.wp P a w K Q
def ZG(l:List Oper)(ib ia fa m:Nat):Bool:=
 l.length==m+1&&decide (ib<m)&&decide (ia<m)&&decide (fa<m)&&ib !=ia&&ia !=fa&&ib !=fa&&(match l[m]? with|some om=>om.dst.isNone&&(om.after.any fun e=>e.on==ia&&Region.binds .any e)&&(om.after.any fun e=>e.on==fa&&Region.binds .any e)|none=>false) &&
 (match l[ia]? with|some oa=>oa.after.any fun e=>e.on==ib&&Region.binds .any e|none=>false) &&
 (List.range m).all fun k=>k==fa||k==ia||(List.range m).any fun k'=>decide (k<k')&&k' !=fa&&(match l[k']? with|some o=>o.after.any fun e=>e.on==k&&Region.binds .any e|none=>false)
structure AsJ(pv:Nat->Value)(wr:World)(ib ia fa m:Nat)(u:Value)(T:TypeId)(A Fin:Value->World->Prop)(L:Nat->Bool)(V:Nat->Value)(w:World):Prop where
 vals:∀k,L k=true->k<m->k≠ib->k≠ia->V k=pv k
 ex:L ia=false->Ex wr w
 vb:L ib=true->∃B,V ib= .slice (some ⟨B,0,none⟩) 1 1/\(L ia=false->w.heap[B]?=some (.cells #[u] T))
 va:L ia=true->L m=false->A (V ia) w
 fin:L m=true->L ia=true/\Fin (V ia) w
theorem Ft{l:Array Edge}{k:Nat}(h:(l.any fun e=>e.on==k&&Region.binds .any e)=true):∃e∈l,e.on=k/\Region.binds .any e=true:=by
 rw[Array.any_eq_true']at h;obtain⟨e,he,h⟩:=h;rw[Bool.and_eq_true,beq_iff_eq]at h;exact⟨e,he,h.1,h.2⟩
theorem zca{P:Prop}(h:P:=by
 have aA:B<w.heap.size:=(Array.getElem?_eq_some_iff.1 hb).1;rw[h.block B aA];exact hb):P:=h
theorem V7{w w':World}{B:Nat}{o:Obj}(h:Ex w w')(hb:w.heap[B]?=some o):w'.heap[B]?=some o:=by
 exact zca
theorem zaI{P:Prop}(h:P:=by
 by_cases e2:k=k0
 .rw[e2,Ab]
 .rw[Ae _ _ e2]at hk ⊢;exact hj.vals k hk a1 a2 a3):P:=h
theorem zaR{P:Prop}(h:P:=by
 rw[Ae _ _ (by omega)]at hk ⊢;exact hj.vals k hk a1 a2 a3):P:=h
theorem za0{P:Prop}(h:P:=by
 rw[Ae _ _ (by omega),aV]at h2;cases h2):P:=h
theorem Fw{id:Nat}{l:List Oper}{w:World}(pv:Nat->Value)(ib ia fa m:Nat)(u:Value)(T:TypeId)(A Fin:Value->World->Prop)(hm:P.follows .mixedOrders=true)(hB:Nj a0.tmps.size l 0 []=true)(hl:ZG l ib ia fa m=true)
  (hs:AL (Ik P Q l a0 pv w ib ia fa m) l 0)
  (hb:∀(o:Oper) (a:Act) (w1:World) (K:Act->World->Prop),l[ib]?=some o->Ex w w1->(∀k t o',(o.after.any fun e=>e.on==k&&Region.binds .any e)=true->k<m->k≠ib->k≠ia->l[k]?=some o'->o'.dst=some t->a.tmps[t]?=some (pv k))->K (a.put o.dst (.slice (some ⟨w1.heap.size,0,none⟩) 1 1)) (w1.alloc (.cells #[u] T))->o.wp P a w1 K Q)
  (ha:∀(o ob:Oper) (a:Act) (w1:World) (B:Nat) (K:Act->World->Prop),l[ia]?=some o->l[ib]?=some ob->Ex w w1->(∀t,ob.dst=some t->a.tmps[t]?=some (.slice (some ⟨B,0,none⟩) 1 1))->w1.heap[B]?=some (.cells #[u] T)->(∀k t o',(o.after.any fun e=>e.on==k&&Region.binds .any e)=true->k<m->k≠ib->k≠ia->l[k]?=some o'->o'.dst=some t->a.tmps[t]?=some (pv k))->(∀v w2,A v w2->K (a.put o.dst v) w2)->o.wp P a w1 K Q)
  (BC:∀(o oa of:Oper) (a:Act) (w1:World) (v:Value) (K:Act->World->Prop),l[m]?=some o->l[ia]?=some oa->l[fa]?=some of->A v w1->(∀t,oa.dst=some t->a.tmps[t]?=some v)->(∀t,of.dst=some t->a.tmps[t]?=some (pv fa))->(∀w2,Fin v w2->K (a.put o.dst undef) w2)->o.wp P a w1 K Q)
  (aY:Nat->Value->Nat->Value) (bN:∀B v,(List.range m).map (aY B v)=(List.range m).map (Az (Az pv ib (.slice (some ⟨B,0,none⟩) 1 1)) ia v))
  (he:∀(B:Nat) (v:Value) (w1:World),Fin v w1->Q .normal (Ck l (aY B v) 0 a0) w1):(Code.region id l.toArray true).wp P Q a0 w:=by
 unfold ZG at hl;simp only[Bool.and_eq_true,beq_iff_eq,decide_eq_true_eq,bne_iff_ne,ne_eq]at hl;obtain⟨⟨⟨⟨⟨⟨⟨⟨⟨hlen,hibm⟩,hiam⟩,hfam⟩,hba⟩,haf⟩,hbf⟩,aL⟩,bH⟩,aJ⟩:=hl;obtain⟨om,aB⟩:∃om,l[m]?=some om:=by
  cases h:l[m]? with
  | none=>rw[h]at aL;cases aL
  | some om=>exact⟨om,rfl⟩
 rw[aB]at aL;simp only[Bool.and_eq_true]at aL;obtain⟨⟨aF,bS⟩,bR⟩:=aL;have bT:om.dst=none:=by cases hd:om.dst with|none=>rfl|some d=>rw[hd]at aF;cases aF
 obtain⟨ea,aT,aS,aR⟩:=Ft bS;obtain⟨ef,aQ,aP,aO⟩:=Ft bR;obtain⟨oa,aC⟩:∃oa,l[ia]?=some oa:=⟨_,List.getElem?_eq_getElem ac⟩;obtain⟨ob,aE⟩:∃ob,l[ib]?=some ob:=⟨_,List.getElem?_eq_getElem ac⟩;obtain⟨of,aM⟩:∃of,l[fa]?=some of:=⟨_,List.getElem?_eq_getElem ac⟩;rw[aC]at bH;obtain⟨eb,bD,bC,bB⟩:=Ft bH;have bF:∀(L:Nat->Bool),(∀(k:Nat) (o':Oper),L k=true->l.toArray[k]?=some o'->∀e∈o'.after,Region.binds .any e=true->L e.on=true)->L ia=true->∀d k,m-k<=d->k<m->k≠fa->L k=true:=fun L aU aG d=>by
  induction d with
  | zero=>intro k h1 h2;omega
  | succ d ih=>
   intro k h1 h2 h3;by_cases e:k=ia
   .rw[e];exact aG
   .have:=List.all_eq_true.1 aJ k (List.mem_range.2 h2);simp only[Bool.or_eq_true,beq_iff_eq]at this;rcases this with (h|h)|h
    .exact absurd h h3
    .exact absurd h e
    .obtain⟨k',bO,h⟩:=List.any_eq_true.1 h;simp only[Bool.and_eq_true,decide_eq_true_eq,bne_iff_ne,ne_eq]at h;obtain⟨⟨h4,h5⟩,h6⟩:=h;have aZ:=List.mem_range.1 bO;have bU:=ih k' ac aZ h5;obtain⟨o',aI⟩:∃o',l[k']?=some o':=⟨_,List.getElem?_eq_getElem ac⟩;rw[aI]at h6;obtain⟨e1,g1,g2,g3⟩:=Ft h6;have:=aU k' o' bU (by simpa using aI) e1 g1 g3;rw[g2]at this;exact this
 refine CW (AsJ pv w ib ia fa m u T A Fin) hm hB ⟨fun k h=>bi,fun _=>(Ex.refl w).drew,fun h=>bi,fun h=>bi,fun h=>bi⟩ ?_ ?_
 .have bK:∀(l':List Oper) (k0:Nat),(∀i o,l'[i]?=some o->l[k0+i]?=some o)->AL (Ik P Q l a0 pv w ib ia fa m) l' k0->AL (Ut P Q (AsJ pv w ib ia fa m u T A Fin) l.toArray a0) l' k0:=fun l'=>by
   induction l' with
   | nil=>intro _ _ _;trivial
   | cons o l' ih=>
    intro k0 aK h;refine⟨?_,ih (k0+1) (fun i o' hi=>by rw[show k0+1+i=k0+(i+1) from ac];exact aK (i+1) o' hi) h.2⟩;intro L V a w' hf hj hi hd aU K hK;have aA:l[k0]?=some o:=by have:=aK 0 o rfl;simpa using this
    have hk0:k0<l.length:=(List.getElem?_eq_some_iff.1 aA).1;have bA:∀k t o',L k=true->k<m->k≠ib->k≠ia->l[k]?=some o'->o'.dst=some t->a.tmps[t]?=some (pv k):=fun k t o' hk h1 h2 h3 aI bE=>by
     rw[<-hj.vals k hk h1 h2 h3];exact hf.in_ k t hk aI bE
    have aD:∀k t o',(o.after.any fun e=>e.on==k&&Region.binds .any e)=true->k<m->k≠ib->k≠ia->l[k]?=some o'->o'.dst=some t->a.tmps[t]?=some (pv k):=fun k t o' hk h1 h2 h3 aI bE=>by
     obtain⟨e,g1,g2,g3⟩:=Ft hk;exact bA k t o' (by have:=hd e g1 g3;rw[g2]at this;exact this) h1 h2 h3 aI bE
    have aW:k0≠fa->k0≠m->L ia=false:=fun h1 h2=>Bl fun hb=>by
     have:=bF L aU hb _ k0 (Nat.le_refl _) ac h1;rw[hi]at this;cases this
    have aV:L m=false:=by
     by_cases e:k0=m
     .rw[<-e];exact hi
     .refine Bl fun hb=>?_;by_cases e2:k0=fa
      .have:=aU m om hb (by simpa using aB) ef aQ aO;rw[aP,<-e2,hi]at this;cases this
      .have:=aU m om hb (by simpa using aB) ea aT aR;rw[aS,aW e2 e]at this;cases this
    have h1:=h.1 L a w' bA (fun t ht=>hf.out_ t ht) hd K;by_cases e1:k0=fa
    .rw[if_pos e1]at h1;refine h1 (hK (pv k0) _ ⟨fun k hk a1 a2 a3=>?_,fun hh=>?_,fun hh=>?_,fun h2 h3=>?_,fun h2=>?_⟩)
     .exact zaI
     .rw[Ae _ _ ac]at hh;exact hj.ex hh
     .rw[Ae _ _ ac]at hh ⊢;obtain⟨B,g1,g2⟩:=hj.vb hh;exact⟨B,g1,fun g3=>g2 (by rw[Ae _ _ ac]at g3;exact g3)⟩
     .rw[Ae _ _ ac]at h2 h3 ⊢;exact hj.va h2 h3
     .exact za0
    .rw[if_neg e1]at h1;by_cases e2:k0=m
     .rw[e2,aB]at aA;injection aA with aA;have aG:L ia=true:=by
       have:=hd ea (by rw[<-aA];exact aT) aR;rw[aS]at this;exact this
      have bQ:L fa=true:=by
       have:=hd ef (by rw[<-aA];exact aQ) aO;rw[aP]at this;exact this
      rw[<-aA];refine BC om oa of a w' (V ia) K aB aC aM (hj.va aG aV) (fun t ht=>hf.in_ ia t aG aC ht) (fun t ht=>bA fa t of bQ ac ac ac aM ht) fun w2 bL=>?_;rw[aA];refine hK undef _ ⟨fun k hk a1 a2 a3=>?_,fun hh=>?_,fun hh=>?_,fun h2 h3=>?_,fun h2=>?_⟩
      .exact zaR
      .rw[Ae _ _ ac,aG]at hh;cases hh
      .rw[Ae _ _ ac]at hh ⊢;obtain⟨B,g1,g2⟩:=hj.vb hh;exact⟨B,g1,fun g3=>by rw[Ae _ _ ac,aG]at g3;cases g3⟩
      .rw[e2,Ab]at h3;cases h3
      .rw[Ae _ _ ac,Ae _ _ ac];exact⟨aG,bL⟩
     .have aX:=aW e1 e2;have aN:=hj.ex aX;by_cases e3:k0=ia
      .rw[e3,aC]at aA;injection aA with aA;have bJ:L ib=true:=by
        have:=hd eb (by rw[<-aA];exact bD) bB;rw[bC]at this;exact this
       obtain⟨B,g1,g2⟩:=hj.vb bJ;rw[<-aA];rw[<-aA]at aD;refine ha oa ob a w' B K aC aE aN (fun t ht=>by rw[<-g1];exact hf.in_ ib t bJ aE ht) (g2 aX) aD fun v w2 hA=>?_;rw[aA];refine hK v _ ⟨fun k hk a1 a2 a3=>?_,fun hh=>?_,fun hh=>?_,fun h2 h3=>?_,fun h2=>?_⟩
       .exact zaR
       .rw[e3,Ab]at hh;cases hh
       .rw[Ae _ _ ac];exact⟨B,g1,fun g3=>by rw[e3,Ab]at g3;cases g3⟩
       .rw[e3,Ab];exact hA
       .exact za0
      .by_cases e4:k0=ib
       .rw[e4,aE]at aA;injection aA with aA;rw[<-aA]at aD;rw[<-aA];refine hb ob a w' K aE aN aD ?_;rw[aA];refine hK (.slice (some ⟨w'.heap.size,0,none⟩) 1 1) _ ⟨fun k hk a1 a2 a3=>?_,fun hh=>?_,fun hh=>?_,fun h2 h3=>?_,fun h2=>?_⟩
        .exact zaR
        .exact aN.alloc _
        .rw[e4,Ab];exact⟨_,rfl,fun _=>by show(w'.heap.push _)[w'.heap.size]?=_;rw[Array.getElem?_push_size]⟩
        .rw[Ae _ _ ac,aX]at h2;cases h2
        .exact za0
       .rw[if_neg ac,if_neg e4]at h1;refine h1 aN fun w2 bG=>hK (pv k0) _ ⟨fun k hk a1 a2 a3=>?_,fun hh=>?_,fun hh=>?_,fun h2 h3=>?_,fun h2=>?_⟩
        .exact zaI
        .exact aN.trans bG
        .rw[Ae _ _ ac]at hh ⊢;obtain⟨B,g1,g2⟩:=hj.vb hh;exact⟨B,g1,fun g3=>V7 bG (g2 aX)⟩
        .rw[Ae _ _ ac,aX]at h2;cases h2
        .exact za0
  exact bK l 0 (fun i o h=>by rw[Nat.zero_add];exact h) hs
 .intro L V w' aH hj;obtain⟨aG,hF⟩:=hj.fin (aH m ac);obtain⟨B,bV,-⟩:=hj.vb (aH ib ac);have bM:∀i,i<m->aY B (V ia) i=Az (Az pv ib (.slice (some ⟨B,0,none⟩) 1 1)) ia (V ia) i:=fun i hi=>by
   have:=congrArg (fun L=>L[i]?) (bN B (V ia));simpa[hi]using this
  have hp:Ck l V 0 a0=Ck l (aY B (V ia)) 0 a0:=En l 0 V _ a0 fun i o hi hd=>by
   rw[Nat.zero_add];have bP:i<l.length:=(List.getElem?_eq_some_iff.1 hi).1;have bI:i<m:=by
    refine Nat.lt_of_le_of_ne ac fun e=>hd ?_;rw[e,aB]at hi;injection hi with hi;rw[<-hi];exact bT
   rw[bM i bI];by_cases e1:i=ia
   .rw[e1,Ab]
   .rw[Ae _ _ e1];by_cases e2:i=ib
    .rw[e2,Ab];exact bV
    .rw[Ae _ _ e2];by_cases e3:i=m
     .omega
     .exact hj.vals i (aH i bP) bI e2 e1
  rw[hp];exact he B (V ia) w' hF
def Ij(P:Program)(Q:Exit->Act->World->Prop)(l:List Oper)(a0:Act)(pv:Nat->Value)(wr:World)(A Fin:Value->World->Prop)(ia m i:Nat)(o:Oper):Prop:=
 ∀(L:Nat->Bool) (a:Act) (w:World),(∀k t o',L k=true->k<m->k≠ia->l[k]?=some o'->o'.dst=some t->a.tmps[t]?=some (pv k))->(∀t,(l.all fun o=>o.dst !=some t)=true->a.tmps[t]?=a0.tmps[t]?)->(∀e∈o.after,Region.binds .any e=true->L e.on=true)->Ex wr w->
  ∀K:Act->World->Prop,
   if i=ia then(∀v w',Ex w w'->A v w'->K (a.put o.dst v) w')->o.wp P a w K Q
   else if i=m then ∀v,A v w->(∀t oa,l[ia]?=some oa->oa.dst=some t->a.tmps[t]?=some v)->(∀w',Fin v w'->K (a.put o.dst undef) w')->o.wp P a w K Q
   else(∀w',Ex w w'->K (a.put o.dst (pv i)) w')->o.wp P a w K Q
def Wd(l:List Oper)(ia m:Nat):Bool:=
 match l[m]? with|some om=>l.length==m+1&&decide (ia<m)&&om.dst.isNone&&(List.range m).all fun k=>om.after.any fun e=>e.on==k&&Region.binds .any e|none=>false
structure FsJ(pv:Nat->Value)(wr:World)(ia m:Nat)(A Fin:Value->World->Prop)(L:Nat->Bool)(V:Nat->Value)(w:World):Prop where
 vals:∀k,L k=true->k<m->k≠ia->V k=pv k
 ex:L m=false->Ex wr w
 va:L ia=true->L m=false->A (V ia) w
 fin:L m=true->Fin (V ia) w
theorem Hf{id:Nat}{l:List Oper}{w:World}(pv:Nat->Value)(ia m:Nat)(A Fin:Value->World->Prop)(hA:∀v w1 w2,A v w1->Ex w1 w2->A v w2)(hm:P.follows .mixedOrders=true)(hB:Nj a0.tmps.size l 0 []=true)(hl:Wd l ia m=true)
  (hs:AL (Ij P Q l a0 pv w A Fin ia m) l 0) (aF:Value->Nat->Value) (aR:∀v,(List.range m).map (aF v)=(List.range m).map (Az pv ia v))
  (he:∀(v:Value) (w1:World),Fin v w1->Q .normal (Ck l (aF v) 0 a0) w1):(Code.region id l.toArray true).wp P Q a0 w:=by
 obtain⟨om,aH⟩:∃om,l[m]?=some om:=by
  unfold Wd at hl;exact zcm
 unfold Wd at hl;rw[aH]at hl;simp only[Bool.and_eq_true,beq_iff_eq,decide_eq_true_eq]at hl;obtain⟨⟨⟨hlen,aJ⟩,aA⟩,aL⟩:=hl;have aW:om.dst=none:=dy;have aB:∀k,k<m->∃e∈om.after,(e:Edge).on=k/\Region.binds .any e=true:=fun k hk=>Ft (List.all_eq_true.1 aL k (List.mem_range.2 hk));refine CW (FsJ pv w ia m A Fin) hm hB ⟨fun k h=>bi,fun _=>(Ex.refl w).drew,fun h=>bi,fun h=>bi⟩ ?_ ?_
 .have aO:∀(l':List Oper) (k0:Nat),(∀i o,l'[i]?=some o->l[k0+i]?=some o)->AL (Ij P Q l a0 pv w A Fin ia m) l' k0->AL (Ut P Q (FsJ pv w ia m A Fin) l.toArray a0) l' k0:=fun l'=>by
   induction l' with
   | nil=>intro _ _ _;trivial
   | cons o l' ih=>
    intro k0 aD h;refine⟨?_,ih (k0+1) (fun i o' hi=>by rw[show k0+1+i=k0+(i+1) from ac];exact aD (i+1) o' hi) h.2⟩;intro L V a w' hf hj hi hd aY K hK;have aE:l[k0]?=some o:=by have:=aD 0 o rfl;simpa using this
    have hk0:k0<l.length:=(List.getElem?_eq_some_iff.1 aE).1;have aI:L m=false:=by
     by_cases e:k0=m
     .rw[<-e];exact hi
     .refine Bl fun hb=>?_;obtain⟨e2,h1,h2,h3⟩:=aB k0 ac;have:=aY m om hb (by simpa using aH) e2 h1 h3;rw[h2,hi]at this;cases this
    have aK:=hj.ex aI;have h1:=h.1 L a w' (fun k t o' hk h1 h2 aU aX=>by rw[<-hj.vals k hk h1 h2];exact hf.in_ k t hk aU aX) (fun t ht=>hf.out_ t ht) hd aK K;by_cases e1:k0=ia
    .rw[if_pos e1]at h1;refine h1 fun v w2 aG aZ=>hK v _ ⟨fun k hk a1 a2=>?_,fun hh=>aK.trans aG,fun h2 h3=>?_,fun h2=>?_⟩
     .rw[Ae _ _ ac]at hk ⊢;exact hj.vals k hk a1 a2
     .rw[e1,Ab];exact aZ
     .rw[Ae _ _ ac,aI]at h2;cases h2
    .rw[if_neg e1]at h1;by_cases e2:k0=m
     .rw[if_pos e2]at h1;have aN:L ia=true:=by
       obtain⟨e3,g1,g2,g3⟩:=aB ia aJ;have aS:o=om:=by rw[e2,aH]at aE;injection aE with aE;exact aE.symm
       have:=hd e3 (by rw[aS];exact g1) g3;rw[g2]at this;exact this
      refine h1 (V ia) (hj.va aN aI) (fun t oa aT ht=>hf.in_ ia t aN aT ht) fun w2 aP=>hK undef _ ⟨fun k hk a1 a2=>?_,fun hh=>?_,fun h2 h3=>?_,fun h2=>?_⟩
      .rw[Ae _ _ ac]at hk ⊢;exact hj.vals k hk a1 a2
      .rw[e2,Ab]at hh;cases hh
      .rw[e2,Ab]at h3;cases h3
      .rw[Ae _ _ ac];exact aP
     .rw[if_neg e2]at h1;refine h1 fun w2 aG=>hK (pv k0) _ ⟨fun k hk a1 a2=>?_,fun hh=>aK.trans aG,fun h2 h3=>?_,fun h2=>?_⟩
      .by_cases e3:k=k0
       .rw[e3,Ab]
       .rw[Ae _ _ e3]at hk ⊢;exact hj.vals k hk a1 a2
      .rw[Ae _ _ ac]at h2 h3 ⊢;exact hA _ _ _ (hj.va h2 h3) aG
      .rw[Ae _ _ ac,aI]at h2;cases h2
  exact aO l 0 (fun i o h=>by rw[Nat.zero_add];exact h) hs
 .intro L V w' aC hj;have hF:=hj.fin (aC m ac);have aQ:∀i,i<m->aF (V ia) i=Az pv ia (V ia) i:=fun i hi=>by
   have:=congrArg (fun L=>L[i]?) (aR (V ia));simpa[hi]using this
  have hp:Ck l V 0 a0=Ck l (aF (V ia)) 0 a0:=En l 0 V _ a0 fun i o hi hd=>by
   rw[Nat.zero_add];have aV:i<l.length:=(List.getElem?_eq_some_iff.1 hi).1;have aM:i<m:=by
    refine Nat.lt_of_le_of_ne ac fun e=>hd ?_;rw[e,aH]at hi;injection hi with hi;rw[<-hi];exact aW
   rw[aQ i aM];by_cases e1:i=ia
   .rw[e1,Ab]
   .rw[Ae _ _ e1];exact hj.vals i (aC i aV) aM e1
  rw[hp];exact he (V ia) w' hF
end
def Stp(w:World)(base g R N:Nat)(a':Nat->Nat->Int)(avs:List Nat)(r:Ending)(w':World):Prop:=
 (∃t,r= .returned t)/\(∃aB aA,EM w' base g R N aB aA a' avs)/\Kp w w' avs/\∀w0,Ex w0 w->w0.heap.size<=base->Ex w0 w'
theorem Wk(w:World){base g R N:Nat}{blk cap:Nat->Nat}{a:Nat->Nat->Int}{avs:List Nat}(h:EM w base g R N blk cap a avs)(Bk Ba:Nat)(s k:Nat)(hs:s<R)(hk:k<R)(aA:s≠k)(aB:Bk∈avs)(aC:Ba∈avs)
  (ck:w.cell? ⟨Bk,0,none⟩=some (.int .i64 k)) (ca:w.cell? ⟨Ba,0,none⟩=some (.int .i64 s)):
  Calls Tryz.prog 249 #[.slice (some ⟨g,0,none⟩) R R,.pointer (some ⟨Bk,0,none⟩),.pointer (some ⟨Ba,0,none⟩)] w (Stp w base g R N (Dx a s k) avs):=by
 have c1:=h.cell hs;have c2:=h.cell hk;have f1:=h.arr.frz s;have f2:=h.arr.frz k;have i1:(0:Int)<=(s:Int):=ac;have i2:(s:Int)<(R:Int):=ac;have i3:(0:Int)<=(k:Int):=ac;have i4:(k:Int)<(R:Int):=ac;have n1:¬s=k:=aA;have n2:¬k=s:=fun e=>aA e.symm;have ck2:(w.setCell ⟨g,s,none⟩ (.slice (some ⟨blk k,0,none⟩) N (cap k))).cell? ⟨Bk,0,none⟩=some (.int .i64 k):=by rw[Ag (h.av Bk aB).2.1];exact ck
 have ca2:(w.setCell ⟨g,s,none⟩ (.slice (some ⟨blk k,0,none⟩) N (cap k))).cell? ⟨Ba,0,none⟩=some (.int .i64 s):=by rw[Ag (h.av Ba aC).2.1];exact ca
 have ck3:(w.setCell ⟨g,k,none⟩ (.slice (some ⟨blk s,0,none⟩) N (cap s))).cell? ⟨Bk,0,none⟩=some (.int .i64 k):=by rw[Ag (h.av Bk aB).2.1];exact ck
 have ca3:(w.setCell ⟨g,k,none⟩ (.slice (some ⟨blk s,0,none⟩) N (cap s))).cell? ⟨Ba,0,none⟩=some (.int .i64 s):=by rw[Ag (h.av Ba aC).2.1];exact ca
 have HE:=Aa (h.ex (Ex.refl w).drew);have HS:=Aa (HE.o.swp hs hk aA);have HM:=Aa (h.ex (Ex.refl w).drew |>.arr.set s (DW blk cap N k));obtain⟨aE,aD,HB,HR⟩:=Eq (show Kp (w.drew.setCell ⟨g,s,none⟩ (DW blk cap N k)) ((w.drew.setCell ⟨g,s,none⟩ (DW blk cap N k)).setCell ⟨g,k,none⟩ (DW blk cap N s)) avs from fun B hB=>Below.heap_setCell _ ⟨g,k,none⟩ _ B (fun e=>(h.av B hB).2.1 e.symm)) (show ∀w0,Ex w0 w->w0.heap.size<=base->Ex w0 ((w.drew.setCell ⟨g,s,none⟩ (DW blk cap N k)).setCell ⟨g,k,none⟩ (DW blk cap N s)) from fun w0 hx hb=>HM.o.exSet hb (HE.o.arr.exSet hb hx.drew s _) k _) h (show s<R/\k<R/\s≠k from⟨hs,hk,aA⟩);clear h hs hk aA;go_enter Tryz.func249,Tryz.ntmps249
 go_wp2_with fail
 go_region
 all_goals
  go_wp2_with fail
  go_end0
  refine⟨⟨_,rfl⟩,⟨_,_,HS.o⟩,?_,fun w0 hx hb=>?_⟩
  .exact((HB.o.kpx (Ex.refl w).drew).trans (HE.o.kpg s (DW blk cap N k))).trans (aE.o)
  .exact(aD.o w0 hx hb)
theorem Wl{p m:Nat}{ml:List Int}{b x0:Nat}(w0 w:World)(hg:A9 w0 b p m ml x0)(aC:Ex w0 w){base g R N:Nat}{blk cap:Nat->Nat}{a:Nat->Nat->Int}{avs:List Nat}(h:EM w base g R N blk cap a avs)(hb:w0.heap.size<=base)(hN:N<=1000)(Bg Bi Ba:Nat)(s:Nat)(aB:Int)(hs:s<R)(hBg:Bg∈avs)(hBi:Bi∈avs)(hBa:Ba∈avs)
  (cg:w.cell? ⟨Bg,0,none⟩=some (.pointer (some ⟨b,0,none⟩))) (ci:w.cell? ⟨Bi,0,none⟩=some (.int .i64 aB)) (ca:w.cell? ⟨Ba,0,none⟩=some (.int .i64 s)):
  Calls Tryz.prog 251 #[.slice (some ⟨g,0,none⟩) R R,.pointer (some ⟨Bg,0,none⟩),.pointer (some ⟨Bi,0,none⟩),.pointer (some ⟨Ba,0,none⟩)] w (Stp w base g R N (Az a s (BR p m ml (Au (p^m) aB) (a s))) avs):=by
 have c1:=h.cell hs;have f1:=h.arr.frz s;have i1:(0:Int)<=(s:Int):=ac;have i2:(s:Int)<(R:Int):=ac;obtain⟨k1,k2⟩:=(h.row s hs).caps;unfold maxLen at k2;obtain⟨HB,HR,HX0,HBB,aL,aO,aN,aF⟩:=On h hs aC hb (fun w' (hx:Ex w w')=>MT w' (hg.ex (aC.trans hx)) N (a s) aB (.slice (some ⟨blk s,0,none⟩) N (cap s)) (((h.row s hs).isl).ex hx) hN) ca f1 c1;clear h hs hg aC hb;go_enter Tryz.func251,Tryz.ntmps251
 go_wp2_with fail
 have E0:Ex w w.drew:=(Ex.refl w).drew
 go_region_law
  ((first
      | (go_simp;go_at_call 252;(with_reducible refine(aL.o _ E0).mono ?_);rintro e wx⟨gg,rfl,aA,hy⟩;have aD:=hy.cell (E0.cell aO.o);have aJ:=hy.cell (E0.cell aF.o);have aI:=hy.frz (E0.cell aF.o) (E0.frz aF.o aN.o))))
 all_goals
  have EX:=Aa (E0.trans hy);have aG:=Aa (HB.o.ex EX.o);have aH:=aA.lt.1;have aE:=Aa (aG.o.put HR.o (aA.mono (b':=base) (by have:=HB.o.arr.lt;have:=E0.size;omega):A6 wx base 3 gg N N _) (fun i hi _ e=>by have:=(HB.o.row i hi).lt.2;have:=E0.size;omega) (fun e=>by have:=HB.o.arr.lt.2;have:=E0.size;omega) (fun B hB e=>by have:=(HB.o.av B hB).1;have:=E0.size;omega));have aM:=Aa ((HB.o.kpx EX.o).trans (aG.o.kpg s (.slice (some ⟨gg,0,none⟩) N N)));have aK:=Aa (show ∀w0,Ex w0 w->w0.heap.size<=base->Ex w0 (wx.setCell ⟨g,s,none⟩ (.slice (some ⟨gg,0,none⟩) N N)) from fun w0 hx hb=>aG.o.arr.exSet hb (hx.trans EX.o) s _);clear aA hy aD aJ aI aH E0 ca c1 f1;go_wp2_with fail
  go_end0
  exact⟨⟨_,rfl⟩,⟨_,_,aE.o⟩,aM.o,aK.o⟩
theorem Wo{p m:Nat}{ml:List Int}{b x0:Nat}(w0 w:World)(hg:A9 w0 b p m ml x0)(aG:Ex w0 w){base g R N:Nat}{blk cap:Nat->Nat}{a:Nat->Nat->Int}{avs:List Nat}(h:EM w base g R N blk cap a avs)(hb:w0.heap.size<=base)(hN:N<=1000)(Bg Bi Bx Ba:Nat)(s i:Nat)(x:Int)(hs:s<R)(hi:i<R)(aH:i≠s)(aS:Bg∈avs)(aR:Bi∈avs)(aQ:Bx∈avs)(aT:Ba∈avs)
  (cg:w.cell? ⟨Bg,0,none⟩=some (.pointer (some ⟨b,0,none⟩))) (ci:w.cell? ⟨Bi,0,none⟩=some (.int .i64 i)) (cx:w.cell? ⟨Bx,0,none⟩=some (.int .i64 x)) (ca:w.cell? ⟨Ba,0,none⟩=some (.int .i64 s)):
  Calls Tryz.prog 253 #[.slice (some ⟨g,0,none⟩) R R,.pointer (some ⟨Bg,0,none⟩),.pointer (some ⟨Bi,0,none⟩),.pointer (some ⟨Bx,0,none⟩),.pointer (some ⟨Ba,0,none⟩)] w (Stp w base g R N (Az a i (BT p m ml (a i) (Ct p m (Au (p^m) x)) (a s))) avs):=by
 have p2:=hg.sh.p2;have c1:=h.cell hs;have c2:=h.cell hi;have i1:(0:Int)<=(s:Int):=ac;have i2:(s:Int)<(R:Int):=ac;have i3:(0:Int)<=(i:Int):=ac;have i4:(i:Int)<(R:Int):=ac;obtain⟨HB,aV,HBB,HR⟩:=Eq h aG hb (show s<R/\i<R/\i≠s from⟨hs,hi,aH⟩);obtain⟨K1,aI⟩:∃K,Ct p m (Au (p^m) x)=K:=⟨_,rfl⟩;have aB:=Aa (fun w' (h:Ex w0 w')=>JQ w' (hg.ex h) x);have aD:K1<p^m:=by rw[<-aI];exact CD ac _
 rw[aI]at aB ⊢;have aE:=Aa (show ∀n,Calls Tryz.prog 254 #[.pointer (some ⟨b,0,none⟩),.slice (some ⟨blk i,0,none⟩) N (cap i),.int .i64 (K1:Nat),.slice (some ⟨blk s,0,none⟩) N (cap s)] (w.drewN n) fun r w'=>(∃t,r= .returned t)/\A6 w' base 3 (blk i) N (cap i) (iv (BT p m ml (a i) K1 (a s)))/\(w.drewN n).grownBy w' (some (blk i)) from fun n=>by
  have:=VE w0 (w.drewN n) hg (aG.drewN n) N (blk i) (cap i) base (a i) (a s) (K1:Nat) (.slice (some ⟨blk s,0,none⟩) N (cap s)) hb ((h.row i hi).drewN n) (((h.row s hs).drewN n).isl) (by show some (blk s)≠some (blk i);intro e;injection e with e;exact h.apart s i hs hi (fun e=>aH e.symm) e) hN;rw[Ax aD]at this;exact this)
 obtain⟨aL,aK,aJ,aM,aO,aN,aC⟩:=OK cg ci cx ca c1 c2 (show(∀B∈avs,some B≠some (blk i))/\some g≠some (blk i) from⟨fun B hB e=>by injection e with e;exact(h.av B hB).2.2 i hi e.symm,fun e=>by injection e with e;exact h.off i hi e.symm⟩);clear h hs hi aH hg aG hb aI aD p2;go_enter Tryz.func253,Tryz.ntmps253
 go_wp2_with fail
 have E0:Ex w w.drew:=(Ex.refl w).drew;have G0:Ex w0 w.drew:=aV.o.trans E0
 go_region_held3 (fun w'=>w'.cell? ⟨Bg,0,none⟩=some (.pointer (some ⟨b,0,none⟩))/\w'.cell? ⟨Bi,0,none⟩=some (.int .i64 i)/\w'.cell? ⟨Bx,0,none⟩=some (.int .i64 x)/\w'.cell? ⟨Ba,0,none⟩=some (.int .i64 s)/\w'.cell? ⟨g,i,none⟩=some (.slice (some ⟨blk i,0,none⟩) N (cap i))/\w'.cell? ⟨g,s,none⟩=some (.slice (some ⟨blk s,0,none⟩) N (cap s)))
  (first|with_reducible exact⟨E0.cell aL.o,E0.cell aK.o,E0.cell aJ.o,E0.cell aM.o,E0.cell aN.o,E0.cell aO.o⟩|with_reducible exact⟨((Ex.refl w).drewN _).cell aL.o,((Ex.refl w).drewN _).cell aK.o,((Ex.refl w).drewN _).cell aJ.o,((Ex.refl w).drewN _).cell aM.o,((Ex.refl w).drewN _).cell aN.o,((Ex.refl w).drewN _).cell aO.o⟩|with_reducible exact⟨hgr.cell (((Ex.refl w).drewN _).cell aL.o) (aC.o.1 _ aS),hgr.cell (((Ex.refl w).drewN _).cell aK.o) (aC.o.1 _ aR),hgr.cell (((Ex.refl w).drewN _).cell aJ.o) (aC.o.1 _ aQ),hgr.cell (((Ex.refl w).drewN _).cell aM.o) (aC.o.1 _ aT),hgr.cell (((Ex.refl w).drewN _).cell aN.o) aC.o.2,hgr.cell (((Ex.refl w).drewN _).cell aO.o) aC.o.2⟩)
  ((first
      | (go_at_call 158;(with_reducible refine(aB.o _ G0).mono ?_);rintro e wx1⟨rfl,n1,rfl⟩)
      | (go_at_call 254;(with_reducible refine(aE.o _).mono ?_);rintro e wx2⟨⟨t,rfl⟩,hown,hgr⟩)))
 have aP:=Aa (fun n=>HB.o.ex ((Ex.refl w).drewN n));have aA:=Aa ((aP.o _).rowAt HR.o.2.1 hown hgr);have aW:=Aa ((HB.o.kpx ((Ex.refl w).drewN _)).trans aA.o.2);have aU:=Aa (show ∀aF,Ex aF w->aF.heap.size<=base->Ex aF wx2 from fun aF hx hb=>Ex.grown (hx.drewN _) ((aP.o _).row i HR.o.2.1) hb hgr);have aX:=Aa aA.o.1;clear hown hgr E0 G0 aA aE aB;go_wp2_with fail
 go_end0
 exact⟨⟨_,rfl⟩,⟨_,_,aX.o⟩,aW.o,aU.o⟩
theorem Wp(w:World){base g R N:Nat}{blk cap:Nat->Nat}{a:Nat->Nat->Int}{avs:List Nat}(h:EM w base g R N blk cap a avs)(Br Bs Bk Ba:Nat)(s k:Nat)(hs:s<R)(hk:k<R)(aA:s≠k)(aC:Bs∈avs)(aD:Bk∈avs)(aE:Ba∈avs)
  (cr:w.cell? ⟨Br,0,none⟩=some (.slice (some ⟨g,0,none⟩) R R)) (cs:w.cell? ⟨Bs,0,none⟩=some (.slice none 0 0)) (ck:w.cell? ⟨Bk,0,none⟩=some (.int .i64 k)) (ca:w.cell? ⟨Ba,0,none⟩=some (.int .i64 s)):
  Calls Tryz.prog 248 #[.func (.func 249) #[] #[.pointer (some ⟨Bk,0,none⟩),.pointer (some ⟨Ba,0,none⟩)],.pointer (some ⟨Br,0,none⟩),.pointer (some ⟨Bs,0,none⟩)] w (Stp w base g R N (Dx a s k) avs):=by
 have HC:=Aa (Wk w h Bk Ba s k hs hk aA aD aE ck ca);have aH:=Aa aC;have aG:=Aa cs;clear h hs hk aA aC aD aE ck ca cs;go_enter Tryz.func248,Tryz.ntmps248
 go_wp2_with (go_at_call 249;refine HC.o.mono ?_;rintro e w2⟨⟨t,rfl⟩,BC,aB,aF⟩;have hcs:=aB.cell aH.o aG.o)
 go_end0
 exact⟨⟨_,rfl⟩,BC,aB,aF⟩
theorem Wq{p m:Nat}{ml:List Int}{b x0:Nat}(w0 w:World)(hg:A9 w0 b p m ml x0)(aB:Ex w0 w){base g R N:Nat}{blk cap:Nat->Nat}{a:Nat->Nat->Int}{avs:List Nat}(h:EM w base g R N blk cap a avs)(hb:w0.heap.size<=base)(hN:N<=1000)(Br Bs Bg Bi Ba:Nat)(s:Nat)(aA:Int)(hs:s<R)(aD:Bs∈avs)(aF:Bg∈avs)(aE:Bi∈avs)(aG:Ba∈avs)
  (cr:w.cell? ⟨Br,0,none⟩=some (.slice (some ⟨g,0,none⟩) R R)) (cs:w.cell? ⟨Bs,0,none⟩=some (.slice none 0 0)) (cg:w.cell? ⟨Bg,0,none⟩=some (.pointer (some ⟨b,0,none⟩))) (ci:w.cell? ⟨Bi,0,none⟩=some (.int .i64 aA)) (ca:w.cell? ⟨Ba,0,none⟩=some (.int .i64 s)):
  Calls Tryz.prog 248 #[.func (.func 251) #[] #[.pointer (some ⟨Bg,0,none⟩),.pointer (some ⟨Bi,0,none⟩),.pointer (some ⟨Ba,0,none⟩)],.pointer (some ⟨Br,0,none⟩),.pointer (some ⟨Bs,0,none⟩)] w (Stp w base g R N (Az a s (BR p m ml (Au (p^m) aA) (a s))) avs):=by
 have HC:=Aa (Wl w0 w hg aB h hb hN Bg Bi Ba s aA hs aF aE aG cg ci ca);have aJ:=Aa aD;have aI:=Aa cs;clear h hs aD aF aE aG cg ci ca cs hg aB hb;go_enter Tryz.func248,Tryz.ntmps248
 go_wp2_with (go_at_call 251;refine HC.o.mono ?_;rintro e w2⟨⟨t,rfl⟩,BC,aC,aH⟩;have hcs:=aC.cell aJ.o aI.o)
 go_end0
 exact⟨⟨_,rfl⟩,BC,aC,aH⟩
theorem Wr{p m:Nat}{ml:List Int}{b x0:Nat}(w0 w:World)(hg:A9 w0 b p m ml x0)(aA:Ex w0 w){base g R N:Nat}{blk cap:Nat->Nat}{a:Nat->Nat->Int}{avs:List Nat}(h:EM w base g R N blk cap a avs)(hb:w0.heap.size<=base)(hN:N<=1000)(Br Bs Bg Bi Bx Ba:Nat)(s i:Nat)(x:Int)(hs:s<R)(hi:i<R)(aB:i≠s)(aE:Bs∈avs)(aG:Bg∈avs)(aF:Bi∈avs)(aD:Bx∈avs)(aH:Ba∈avs)
  (cr:w.cell? ⟨Br,0,none⟩=some (.slice (some ⟨g,0,none⟩) R R)) (cs:w.cell? ⟨Bs,0,none⟩=some (.slice none 0 0)) (cg:w.cell? ⟨Bg,0,none⟩=some (.pointer (some ⟨b,0,none⟩))) (ci:w.cell? ⟨Bi,0,none⟩=some (.int .i64 i)) (cx:w.cell? ⟨Bx,0,none⟩=some (.int .i64 x)) (ca:w.cell? ⟨Ba,0,none⟩=some (.int .i64 s)):
  Calls Tryz.prog 248 #[.func (.func 253) #[] #[.pointer (some ⟨Bg,0,none⟩),.pointer (some ⟨Bi,0,none⟩),.pointer (some ⟨Bx,0,none⟩),.pointer (some ⟨Ba,0,none⟩)],.pointer (some ⟨Br,0,none⟩),.pointer (some ⟨Bs,0,none⟩)] w (Stp w base g R N (Az a i (BT p m ml (a i) (Ct p m (Au (p^m) x)) (a s))) avs):=by
 have HC:=Aa (Wo w0 w hg aA h hb hN Bg Bi Bx Ba s i x hs hi aB aG aF aD aH cg ci cx ca);have aK:=Aa aE;have aJ:=Aa cs;clear h hs hi aB aE aG aF aD aH cg ci cx ca cs hg aA hb;go_enter Tryz.func248,Tryz.ntmps248
 go_wp2_with (go_at_call 253;refine HC.o.mono ?_;rintro e w2⟨⟨t,rfl⟩,BC,aC,aI⟩;have hcs:=aC.cell aK.o aJ.o)
 go_end0
 exact⟨⟨_,rfl⟩,BC,aC,aI⟩
end Go.Proofs.YtehieobniamagaaGreat
