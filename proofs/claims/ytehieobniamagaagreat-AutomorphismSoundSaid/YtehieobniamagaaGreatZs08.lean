/- A drawn region that reckons one element, lays it in a slice of its own, appends it, and stores the new slice: one proof per operation. -/
import Derived.Test.YtehieobniamagaaGreatZs07
namespace Go.Proofs.YtehieobniamagaaGreat
open Go.RowKit
set_option linter.all false
set_option maxRecDepth 100000
set_option maxHeartbeats 4000000
structure SD(w w':World)(base:Nat)(e:TypeId)(size:Nat)(v v':Value)(n:Nat)(xs news:List Value):Prop where
 own:w'.ownsRow base e size v' (n+1) (xs++news)
 gr:w.grownBy w' v.ownBlock
 at_:v'.ownBlock=v.ownBlock∨v'.ownBlock=some w.heap.size
 old:w.ownsRow base e size v n xs
section
variable {w w':World} {base:Nat} {e:TypeId} {size:Nat} {v v':Value} {n:Nat} {xs news:List Value}
theorem SD.ex(h:SD w w' base e size v v' n xs news){a:World}(hx:Ex a w)(hb:a.heap.size<=base):Ex a w':=Ex.grown hx h.old hb h.gr
theorem SD.cell(h:SD w w' base e size v v' n xs news){a:Addr}{u:Value}(hc:w.cell? a=some u)(aA:some a.block≠v.ownBlock):w'.cell? a=some u:=h.gr.cell hc aA
theorem SD.frz(h:SD w w' base e size v v' n xs news){a:Addr}{u:Value}(hc:w.cell? a=some u)(hf:w.frozen? a=false)(aA:some a.block≠v.ownBlock):w'.frozen? a=false:=by
 have aB:=World.block_lt_of_cell? _ _ hc;rw[<-hf];have h2:=h.gr.block a.block aB aA;unfold World.frozen?;rw[h2]
theorem SD.row(h:SD w w' base e size v v' n xs news){b2:Nat}{e2:TypeId}{s2:Nat}{v2:Value}{n2:Nat}{ys:List Value}(k:w.ownsRow b2 e2 s2 v2 n2 ys)(ha:AR v2 v):
  w'.ownsRow b2 e2 s2 v2 n2 ys/\AR v2 v':=by
 refine⟨k.kept h.gr ha,?_⟩;exact zcX
end
theorem SO{w:World}{B:Nat}{x:Value}{t:TypeId}(h:w.heap[B]?=some (.cells #[x] t)):Sl w (.slice (some (B,0)) 1 1) 1 1 [x]:=
 ⟨rfl,some ⟨B,0,none⟩,1,rfl,Nat.le_refl _,by unfold maxLen;omega,fun _=>⟨B,0,rfl,fun j u hu=>by
  match j,hu with
  | 0,hu=>
   simp at hu;subst hu;rw[Nat.zero_add,cell_of_row w B 0 #[x] t (0,0) h];rfl
  | j+1,hu=>simp at hu⟩⟩
section
variable {P:Program} {Q:Exit->Act->World->Prop} {a0:Act}
def IU(P:Program)(Q:Exit->Act->World->Prop)(l:List Oper)(a0:Act)(pv:Nat->Value)(wr:World)(ib ia fa m i:Nat)(o:Oper):Prop:=
 ∀(L:Nat->Bool) (a:Act) (w:World),(∀k t o',L k=true->k<m->k≠ib->k≠ia->l[k]?=some o'->o'.dst=some t->a.tmps[t]?=some (pv k))->(∀t,(l.all fun o=>o.dst !=some t)=true->a.tmps[t]?=a0.tmps[t]?)->(∀e∈o.after,Region.binds .any e=true->L e.on=true)->
  ∀K:Act->World->Prop,
   if i=fa then(K (a.put o.dst (pv i)) w->o.wp P a w K Q)
   else if i=m∨i=ia then True
   else if i=ib then(Ex wr w->True)
   else Ex wr w->(∀w',Ex w w'->K (a.put o.dst (pv i)) w')->o.wp P a w K Q
def asChk(l:List Oper)(ib ia fa m:Nat):Bool:=
 l.length==m+1&&decide (ib<m)&&decide (ia<m)&&decide (fa<m)&&ib !=ia&&ia !=fa&&ib !=fa&&(match l[m]? with|some om=>om.dst.isNone&&(om.after.any fun e=>e.on==ia&&Region.binds .any e)&&(om.after.any fun e=>e.on==fa&&Region.binds .any e)|none=>false) &&
 (match l[ia]? with|some oa=>oa.after.any fun e=>e.on==ib&&Region.binds .any e|none=>false) &&
 (List.range m).all fun k=>k==fa||k==ia||(List.range m).any fun k'=>decide (k<k')&&k' !=fa&&(match l[k']? with|some o=>o.after.any fun e=>e.on==k&&Region.binds .any e|none=>false)
structure AsJ(pv:Nat->Value)(wr:World)(ib ia fa m:Nat)(u:Value)(T:TypeId)(A Fin:Value->World->Prop)(L:Nat->Bool)(V:Nat->Value)(w:World):Prop where
 vals:∀k,L k=true->k<m->k≠ib->k≠ia->V k=pv k
 ex:L ia=false->Ex wr w
 vb:L ib=true->∃B,V ib= .slice (some ⟨B,0,none⟩) 1 1/\(L ia=false->w.heap[B]?=some (.cells #[u] T))
 va:L ia=true->L m=false->A (V ia) w
 fin:L m=true->L ia=true/\Fin (V ia) w
theorem FJ{l:Array Edge}{k:Nat}(h:(l.any fun e=>e.on==k&&Region.binds .any e)=true):∃e∈l,e.on=k/\Region.binds .any e=true:=by
 rw[Array.any_eq_true']at h;obtain⟨e,he,h⟩:=h;rw[Bool.and_eq_true,beq_iff_eq]at h;exact⟨e,he,h.1,h.2⟩
theorem zcm{P:Prop}(h:P:=by
 have aA:B<w.heap.size:=(Array.getElem?_eq_some_iff.1 hb).1;rw[h.block B aA];exact hb):P:=h
theorem WW{w w':World}{B:Nat}{o:Obj}(h:Ex w w')(hb:w.heap[B]?=some o):w'.heap[B]?=some o:=by
 exact zcm
theorem zaM{P:Prop}(h:P:=by
 by_cases e2:k=k0
 .rw[e2,Ab]
 .rw[Ad _ _ e2]at hk ⊢;exact hj.vals k hk a1 a2 a3):P:=h
theorem zaV{P:Prop}(h:P:=by
 rw[Ad _ _ (by omega)]at hk ⊢;exact hj.vals k hk a1 a2 a3):P:=h
theorem za5{P:Prop}(h:P:=by
 rw[Ad _ _ (by omega),aV]at h2;cases h2):P:=h
theorem FP{id:Nat}{l:List Oper}{w:World}(pv:Nat->Value)(ib ia fa m:Nat)(u:Value)(T:TypeId)(A Fin:Value->World->Prop)(hm:P.follows .mixedOrders=true)(hB:NU a0.tmps.size l 0 []=true)(hl:asChk l ib ia fa m=true)
  (hs:AJ (IU P Q l a0 pv w ib ia fa m) l 0)
  (hb:∀(o:Oper) (a:Act) (w1:World) (K:Act->World->Prop),l[ib]?=some o->Ex w w1->(∀k t o',(o.after.any fun e=>e.on==k&&Region.binds .any e)=true->k<m->k≠ib->k≠ia->l[k]?=some o'->o'.dst=some t->a.tmps[t]?=some (pv k))->K (a.put o.dst (.slice (some (w1.heap.size,0)) 1 1)) (w1.alloc (.cells #[u] T))->o.wp P a w1 K Q)
  (ha:∀(o ob:Oper) (a:Act) (w1:World) (B:Nat) (K:Act->World->Prop),l[ia]?=some o->l[ib]?=some ob->Ex w w1->(∀t,ob.dst=some t->a.tmps[t]?=some (.slice (some (B,0)) 1 1))->w1.heap[B]?=some (.cells #[u] T)->(∀k t o',(o.after.any fun e=>e.on==k&&Region.binds .any e)=true->k<m->k≠ib->k≠ia->l[k]?=some o'->o'.dst=some t->a.tmps[t]?=some (pv k))->(∀v w2,A v w2->K (a.put o.dst v) w2)->o.wp P a w1 K Q)
  (BC:∀(o oa of:Oper) (a:Act) (w1:World) (v:Value) (K:Act->World->Prop),l[m]?=some o->l[ia]?=some oa->l[fa]?=some of->A v w1->(∀t,oa.dst=some t->a.tmps[t]?=some v)->(∀t,of.dst=some t->a.tmps[t]?=some (pv fa))->(∀w2,Fin v w2->K (a.put o.dst undef) w2)->o.wp P a w1 K Q)
  (aY:Nat->Value->Nat->Value) (bN:∀B v,(List.range m).map (aY B v)=(List.range m).map (Az (Az pv ib (.slice (some ⟨B,0,none⟩) 1 1)) ia v))
  (he:∀(B:Nat) (v:Value) (w1:World),Fin v w1->Q .normal (Ci l (aY B v) 0 a0) w1):(Code.region id l.toArray true).wp P Q a0 w:=by
 unfold asChk at hl;simp only[Bool.and_eq_true,beq_iff_eq,decide_eq_true_eq,bne_iff_ne,ne_eq]at hl;obtain⟨⟨⟨⟨⟨⟨⟨⟨⟨hlen,hibm⟩,hiam⟩,hfam⟩,hba⟩,haf⟩,hbf⟩,aL⟩,bH⟩,aJ⟩:=hl;obtain⟨om,aB⟩:∃om,l[m]?=some om:=by
  cases h:l[m]? with
  | none=>rw[h]at aL;cases aL
  | some om=>exact⟨om,rfl⟩
 rw[aB]at aL;simp only[Bool.and_eq_true]at aL;obtain⟨⟨aF,bS⟩,bR⟩:=aL;have bT:om.dst=none:=by cases hd:om.dst with|none=>rfl|some d=>rw[hd]at aF;cases aF
 obtain⟨ea,aT,aS,aR⟩:=FJ bS;obtain⟨ef,aQ,aP,aO⟩:=FJ bR;obtain⟨oa,aC⟩:∃oa,l[ia]?=some oa:=⟨_,List.getElem?_eq_getElem ac⟩;obtain⟨ob,aE⟩:∃ob,l[ib]?=some ob:=⟨_,List.getElem?_eq_getElem ac⟩;obtain⟨of,aM⟩:∃of,l[fa]?=some of:=⟨_,List.getElem?_eq_getElem ac⟩;rw[aC]at bH;obtain⟨eb,bD,bC,bB⟩:=FJ bH;have bF:∀(L:Nat->Bool),(∀(k:Nat) (o':Oper),L k=true->l.toArray[k]?=some o'->∀e∈o'.after,Region.binds .any e=true->L e.on=true)->L ia=true->∀d k,m-k<=d->k<m->k≠fa->L k=true:=fun L aU aG d=>by
  induction d with
  | zero=>intro k h1 h2;omega
  | succ d ih=>
   intro k h1 h2 h3;by_cases e:k=ia
   .rw[e];exact aG
   .have:=List.all_eq_true.1 aJ k (List.mem_range.2 h2);simp only[Bool.or_eq_true,beq_iff_eq]at this;rcases this with (h|h)|h
    .exact absurd h h3
    .exact absurd h e
    .obtain⟨k',bO,h⟩:=List.any_eq_true.1 h;simp only[Bool.and_eq_true,decide_eq_true_eq,bne_iff_ne,ne_eq]at h;obtain⟨⟨h4,h5⟩,h6⟩:=h;have aZ:=List.mem_range.1 bO;have bU:=ih k' ac aZ h5;obtain⟨o',aI⟩:∃o',l[k']?=some o':=⟨_,List.getElem?_eq_getElem ac⟩;rw[aI]at h6;obtain⟨e1,g1,g2,g3⟩:=FJ h6;have:=aU k' o' bU (by simpa using aI) e1 g1 g3;rw[g2]at this;exact this
 refine Da (AsJ pv w ib ia fa m u T A Fin) hm hB ⟨fun k h=>bi,fun _=>(Ex.refl w).drew,fun h=>bi,fun h=>bi,fun h=>bi⟩ ?_ ?_
 .have bK:∀(l':List Oper) (k0:Nat),(∀i o,l'[i]?=some o->l[k0+i]?=some o)->AJ (IU P Q l a0 pv w ib ia fa m) l' k0->AJ (Va P Q (AsJ pv w ib ia fa m u T A Fin) l.toArray a0) l' k0:=fun l'=>by
   induction l' with
   | nil=>intro _ _ _;trivial
   | cons o l' ih=>
    intro k0 aK h;refine⟨?_,ih (k0+1) (fun i o' hi=>by rw[show k0+1+i=k0+(i+1) from ac];exact aK (i+1) o' hi) h.2⟩;intro L V a w' hf hj hi hd aU K hK;have aA:l[k0]?=some o:=by have:=aK 0 o rfl;simpa using this
    have hk0:k0<l.length:=(List.getElem?_eq_some_iff.1 aA).1;have bA:∀k t o',L k=true->k<m->k≠ib->k≠ia->l[k]?=some o'->o'.dst=some t->a.tmps[t]?=some (pv k):=fun k t o' hk h1 h2 h3 aI bE=>by
     rw[<-hj.vals k hk h1 h2 h3];exact hf.in_ k t hk aI bE
    have aD:∀k t o',(o.after.any fun e=>e.on==k&&Region.binds .any e)=true->k<m->k≠ib->k≠ia->l[k]?=some o'->o'.dst=some t->a.tmps[t]?=some (pv k):=fun k t o' hk h1 h2 h3 aI bE=>by
     obtain⟨e,g1,g2,g3⟩:=FJ hk;exact bA k t o' (by have:=hd e g1 g3;rw[g2]at this;exact this) h1 h2 h3 aI bE
    have aW:k0≠fa->k0≠m->L ia=false:=fun h1 h2=>Bn fun hb=>by
     have:=bF L aU hb _ k0 (Nat.le_refl _) ac h1;rw[hi]at this;cases this
    have aV:L m=false:=by
     by_cases e:k0=m
     .rw[<-e];exact hi
     .refine Bn fun hb=>?_;by_cases e2:k0=fa
      .have:=aU m om hb (by simpa using aB) ef aQ aO;rw[aP,<-e2,hi]at this;cases this
      .have:=aU m om hb (by simpa using aB) ea aT aR;rw[aS,aW e2 e]at this;cases this
    have h1:=h.1 L a w' bA (fun t ht=>hf.out_ t ht) hd K;by_cases e1:k0=fa
    .rw[if_pos e1]at h1;refine h1 (hK (pv k0) _ ⟨fun k hk a1 a2 a3=>?_,fun hh=>?_,fun hh=>?_,fun h2 h3=>?_,fun h2=>?_⟩)
     .exact zaM
     .rw[Ad _ _ ac]at hh;exact hj.ex hh
     .rw[Ad _ _ ac]at hh ⊢;obtain⟨B,g1,g2⟩:=hj.vb hh;exact⟨B,g1,fun g3=>g2 (by rw[Ad _ _ ac]at g3;exact g3)⟩
     .rw[Ad _ _ ac]at h2 h3 ⊢;exact hj.va h2 h3
     .exact za5
    .rw[if_neg e1]at h1;by_cases e2:k0=m
     .rw[e2,aB]at aA;injection aA with aA;have aG:L ia=true:=by
       have:=hd ea (by rw[<-aA];exact aT) aR;rw[aS]at this;exact this
      have bQ:L fa=true:=by
       have:=hd ef (by rw[<-aA];exact aQ) aO;rw[aP]at this;exact this
      rw[<-aA];refine BC om oa of a w' (V ia) K aB aC aM (hj.va aG aV) (fun t ht=>hf.in_ ia t aG aC ht) (fun t ht=>bA fa t of bQ ac ac ac aM ht) fun w2 bL=>?_;rw[aA];refine hK undef _ ⟨fun k hk a1 a2 a3=>?_,fun hh=>?_,fun hh=>?_,fun h2 h3=>?_,fun h2=>?_⟩
      .exact zaV
      .rw[Ad _ _ ac,aG]at hh;cases hh
      .rw[Ad _ _ ac]at hh ⊢;obtain⟨B,g1,g2⟩:=hj.vb hh;exact⟨B,g1,fun g3=>by rw[Ad _ _ ac,aG]at g3;cases g3⟩
      .rw[e2,Ab]at h3;cases h3
      .rw[Ad _ _ ac,Ad _ _ ac];exact⟨aG,bL⟩
     .have aX:=aW e1 e2;have aN:=hj.ex aX;by_cases e3:k0=ia
      .rw[e3,aC]at aA;injection aA with aA;have bJ:L ib=true:=by
        have:=hd eb (by rw[<-aA];exact bD) bB;rw[bC]at this;exact this
       obtain⟨B,g1,g2⟩:=hj.vb bJ;rw[<-aA];rw[<-aA]at aD;refine ha oa ob a w' B K aC aE aN (fun t ht=>by rw[<-g1];exact hf.in_ ib t bJ aE ht) (g2 aX) aD fun v w2 hA=>?_;rw[aA];refine hK v _ ⟨fun k hk a1 a2 a3=>?_,fun hh=>?_,fun hh=>?_,fun h2 h3=>?_,fun h2=>?_⟩
       .exact zaV
       .rw[e3,Ab]at hh;cases hh
       .rw[Ad _ _ ac];exact⟨B,g1,fun g3=>by rw[e3,Ab]at g3;cases g3⟩
       .rw[e3,Ab];exact hA
       .exact za5
      .by_cases e4:k0=ib
       .rw[e4,aE]at aA;injection aA with aA;rw[<-aA]at aD;rw[<-aA];refine hb ob a w' K aE aN aD ?_;rw[aA];refine hK (.slice (some (w'.heap.size,0)) 1 1) _ ⟨fun k hk a1 a2 a3=>?_,fun hh=>?_,fun hh=>?_,fun h2 h3=>?_,fun h2=>?_⟩
        .exact zaV
        .exact aN.alloc _
        .rw[e4,Ab];exact⟨_,rfl,fun _=>by show(w'.heap.push _)[w'.heap.size]?=_;rw[Array.getElem?_push_size]⟩
        .rw[Ad _ _ ac,aX]at h2;cases h2
        .exact za5
       .rw[if_neg ac,if_neg e4]at h1;refine h1 aN fun w2 bG=>hK (pv k0) _ ⟨fun k hk a1 a2 a3=>?_,fun hh=>?_,fun hh=>?_,fun h2 h3=>?_,fun h2=>?_⟩
        .exact zaM
        .exact aN.trans bG
        .rw[Ad _ _ ac]at hh ⊢;obtain⟨B,g1,g2⟩:=hj.vb hh;exact⟨B,g1,fun g3=>WW bG (g2 aX)⟩
        .rw[Ad _ _ ac,aX]at h2;cases h2
        .exact za5
  exact bK l 0 (fun i o h=>by rw[Nat.zero_add];exact h) hs
 .intro L V w' aH hj;obtain⟨aG,hF⟩:=hj.fin (aH m ac);obtain⟨B,bV,-⟩:=hj.vb (aH ib ac);have bM:∀i,i<m->aY B (V ia) i=Az (Az pv ib (.slice (some (B,0)) 1 1)) ia (V ia) i:=fun i hi=>by
   have:=congrArg (fun L=>L[i]?) (bN B (V ia));simpa[hi]using this
  have hp:Ci l V 0 a0=Ci l (aY B (V ia)) 0 a0:=ED l 0 V _ a0 fun i o hi hd=>by
   rw[Nat.zero_add];have bP:i<l.length:=(List.getElem?_eq_some_iff.1 hi).1;have bI:i<m:=by
    refine Nat.lt_of_le_of_ne ac fun e=>hd ?_;rw[e,aB]at hi;injection hi with hi;rw[<-hi];exact bT
   rw[bM i bI];by_cases e1:i=ia
   .rw[e1,Ab]
   .rw[Ad _ _ e1];by_cases e2:i=ib
    .rw[e2,Ab];exact bV
    .rw[Ad _ _ e2];by_cases e3:i=m
     .omega
     .exact hj.vals i (aH i bP) bI e2 e1
  rw[hp];exact he B (V ia) w' hF
def IT(P:Program)(Q:Exit->Act->World->Prop)(l:List Oper)(a0:Act)(pv:Nat->Value)(wr:World)(A Fin:Value->World->Prop)(ia m i:Nat)(o:Oper):Prop:=
 ∀(L:Nat->Bool) (a:Act) (w:World),(∀k t o',L k=true->k<m->k≠ia->l[k]?=some o'->o'.dst=some t->a.tmps[t]?=some (pv k))->(∀t,(l.all fun o=>o.dst !=some t)=true->a.tmps[t]?=a0.tmps[t]?)->(∀e∈o.after,Region.binds .any e=true->L e.on=true)->Ex wr w->
  ∀K:Act->World->Prop,
   if i=ia then(∀v w',Ex w w'->A v w'->K (a.put o.dst v) w')->o.wp P a w K Q
   else if i=m then ∀v,A v w->(∀t oa,l[ia]?=some oa->oa.dst=some t->a.tmps[t]?=some v)->(∀w',Fin v w'->K (a.put o.dst undef) w')->o.wp P a w K Q
   else(∀w',Ex w w'->K (a.put o.dst (pv i)) w')->o.wp P a w K Q
def W8(l:List Oper)(ia m:Nat):Bool:=
 match l[m]? with|some om=>l.length==m+1&&decide (ia<m)&&om.dst.isNone&&(List.range m).all fun k=>om.after.any fun e=>e.on==k&&Region.binds .any e|none=>false
structure FsJ(pv:Nat->Value)(wr:World)(ia m:Nat)(A Fin:Value->World->Prop)(L:Nat->Bool)(V:Nat->Value)(w:World):Prop where
 vals:∀k,L k=true->k<m->k≠ia->V k=pv k
 ex:L m=false->Ex wr w
 va:L ia=true->L m=false->A (V ia) w
 fin:L m=true->Fin (V ia) w
theorem Ia{id:Nat}{l:List Oper}{w:World}(pv:Nat->Value)(ia m:Nat)(A Fin:Value->World->Prop)(hA:∀v w1 w2,A v w1->Ex w1 w2->A v w2)(hm:P.follows .mixedOrders=true)(hB:NU a0.tmps.size l 0 []=true)(hl:W8 l ia m=true)
  (hs:AJ (IT P Q l a0 pv w A Fin ia m) l 0) (aF:Value->Nat->Value) (aR:∀v,(List.range m).map (aF v)=(List.range m).map (Az pv ia v))
  (he:∀(v:Value) (w1:World),Fin v w1->Q .normal (Ci l (aF v) 0 a0) w1):(Code.region id l.toArray true).wp P Q a0 w:=by
 obtain⟨om,aH⟩:∃om,l[m]?=some om:=by
  unfold W8 at hl;exact zcz
 unfold W8 at hl;rw[aH]at hl;simp only[Bool.and_eq_true,beq_iff_eq,decide_eq_true_eq]at hl;obtain⟨⟨⟨hlen,aJ⟩,aA⟩,aL⟩:=hl;have aW:om.dst=none:=dy;have aB:∀k,k<m->∃e∈om.after,(e:Edge).on=k/\Region.binds .any e=true:=fun k hk=>FJ (List.all_eq_true.1 aL k (List.mem_range.2 hk));refine Da (FsJ pv w ia m A Fin) hm hB ⟨fun k h=>bi,fun _=>(Ex.refl w).drew,fun h=>bi,fun h=>bi⟩ ?_ ?_
 .have aO:∀(l':List Oper) (k0:Nat),(∀i o,l'[i]?=some o->l[k0+i]?=some o)->AJ (IT P Q l a0 pv w A Fin ia m) l' k0->AJ (Va P Q (FsJ pv w ia m A Fin) l.toArray a0) l' k0:=fun l'=>by
   induction l' with
   | nil=>intro _ _ _;trivial
   | cons o l' ih=>
    intro k0 aD h;refine⟨?_,ih (k0+1) (fun i o' hi=>by rw[show k0+1+i=k0+(i+1) from ac];exact aD (i+1) o' hi) h.2⟩;intro L V a w' hf hj hi hd aY K hK;have aE:l[k0]?=some o:=by have:=aD 0 o rfl;simpa using this
    have hk0:k0<l.length:=(List.getElem?_eq_some_iff.1 aE).1;have aI:L m=false:=by
     by_cases e:k0=m
     .rw[<-e];exact hi
     .refine Bn fun hb=>?_;obtain⟨e2,h1,h2,h3⟩:=aB k0 ac;have:=aY m om hb (by simpa using aH) e2 h1 h3;rw[h2,hi]at this;cases this
    have aK:=hj.ex aI;have h1:=h.1 L a w' (fun k t o' hk h1 h2 aU aX=>by rw[<-hj.vals k hk h1 h2];exact hf.in_ k t hk aU aX) (fun t ht=>hf.out_ t ht) hd aK K;by_cases e1:k0=ia
    .rw[if_pos e1]at h1;refine h1 fun v w2 aG aZ=>hK v _ ⟨fun k hk a1 a2=>?_,fun hh=>aK.trans aG,fun h2 h3=>?_,fun h2=>?_⟩
     .rw[Ad _ _ ac]at hk ⊢;exact hj.vals k hk a1 a2
     .rw[e1,Ab];exact aZ
     .rw[Ad _ _ ac,aI]at h2;cases h2
    .rw[if_neg e1]at h1;by_cases e2:k0=m
     .rw[if_pos e2]at h1;have aN:L ia=true:=by
       obtain⟨e3,g1,g2,g3⟩:=aB ia aJ;have aS:o=om:=by rw[e2,aH]at aE;injection aE with aE;exact aE.symm
       have:=hd e3 (by rw[aS];exact g1) g3;rw[g2]at this;exact this
      refine h1 (V ia) (hj.va aN aI) (fun t oa aT ht=>hf.in_ ia t aN aT ht) fun w2 aP=>hK undef _ ⟨fun k hk a1 a2=>?_,fun hh=>?_,fun h2 h3=>?_,fun h2=>?_⟩
      .rw[Ad _ _ ac]at hk ⊢;exact hj.vals k hk a1 a2
      .rw[e2,Ab]at hh;cases hh
      .rw[e2,Ab]at h3;cases h3
      .rw[Ad _ _ ac];exact aP
     .rw[if_neg e2]at h1;refine h1 fun w2 aG=>hK (pv k0) _ ⟨fun k hk a1 a2=>?_,fun hh=>aK.trans aG,fun h2 h3=>?_,fun h2=>?_⟩
      .by_cases e3:k=k0
       .rw[e3,Ab]
       .rw[Ad _ _ e3]at hk ⊢;exact hj.vals k hk a1 a2
      .rw[Ad _ _ ac]at h2 h3 ⊢;exact hA _ _ _ (hj.va h2 h3) aG
      .rw[Ad _ _ ac,aI]at h2;cases h2
  exact aO l 0 (fun i o h=>by rw[Nat.zero_add];exact h) hs
 .intro L V w' aC hj;have hF:=hj.fin (aC m ac);have aQ:∀i,i<m->aF (V ia) i=Az pv ia (V ia) i:=fun i hi=>by
   have:=congrArg (fun L=>L[i]?) (aR (V ia));simpa[hi]using this
  have hp:Ci l V 0 a0=Ci l (aF (V ia)) 0 a0:=ED l 0 V _ a0 fun i o hi hd=>by
   rw[Nat.zero_add];have aV:i<l.length:=(List.getElem?_eq_some_iff.1 hi).1;have aM:i<m:=by
    refine Nat.lt_of_le_of_ne ac fun e=>hd ?_;rw[e,aH]at hi;injection hi with hi;rw[<-hi];exact aW
   rw[aQ i aM];by_cases e1:i=ia
   .rw[e1,Ab]
   .rw[Ad _ _ e1];exact hj.vals i (aC i aV) aM e1
  rw[hp];exact he (V ia) w' hF
end
def Tz(p m:Nat)(low:Vc)(x:Nat):Nat->Nat
 | 0=>x
 | k+1=>BK p m low (Tz p m low x k) p
theorem OC{p m:Nat}{low:Vc}(hp:2<=p)(hm:1<=m){x:Nat}(hx:x<p^m):∀k,Tz p m low x k<p^m
 | 0=>hx
 | k+1=>Dm hp hm _ _
section
variable {b p m x0:Nat} {ml:List Int}
theorem Ut(w:World)(hg:Bh w b p m ml x0):
  Calls Tryz.prog 161 #[.pointer (some (b,0))] w fun r w'=>r= .returned (.tuple #[p,m])/\Ex w w':=by
 have HF:=Aa (Vd w hg);go_enter Tryz.func161,Tryz.ntmps161
 go_wp2_with fail
 refine HF.o.mono ?_;rintro e w1⟨v,rfl,hv,hx⟩;obtain⟨va,vc,rfl,_,_,_⟩:=hv.open;have d0:(w1.alloc (.cells #[p,m,.slice va ml.length vc] 24)).cell? (w1.heap.size,0)=some (.int .i64 p):=ag;have d1:(w1.alloc (.cells #[p,m,.slice va ml.length vc] 24)).cell? (w1.heap.size,1)=some (.int .i64 m):=ag;have HX:=Aa (hx.alloc (.cells #[p,m,.slice va ml.length vc] 24));clear hx hv;go_wp2_with fail
 obtain⟨q,hq⟩:=nA w1.heap.size;rw[hq]at d0 d1
 try simp only[hq]
 clear hq;generalize w1.alloc (.cells #[p,m,.slice va ml.length vc] 24)=w2 at *
 go_quiet (fail)
 go_wp2_with fail
 go_ret2;exact⟨rfl,HX.o.drewN _⟩
theorem MK(w:World)(hg:Bh w b p m ml x0)(x:Int)(k:Nat)(hk:k<m):
  Calls Tryz.prog 107 #[.pointer (some (b,0)),x,k] w fun r w'=>r= .returned (.int .i64 (Tz p m (lw ml) (Ar (p^m) x) k:Nat))/\Ex w w':=by
 have HG:=Aa hg;have HP:=Aa (Ut w hg);have p2:=hg.sh.p2;have m1:=hg.sh.m1;have m8:=hg.sh.m8;have hp256:=hg.sh.p256;have aD:0<p^m:=Nat.pow_pos ac;have T1:(k:Int).tmod (m:Int)=(k:Int):=by
  rw[Int.tmod_eq_emod_of_nonneg ac];exact Int.emod_eq_of_lt ac ac
 have T2:((k:Int)+(m:Int)).tmod (m:Int)=(k:Int):=by
  rw[Int.tmod_eq_emod_of_nonneg ac,Int.add_emod_right];exact Int.emod_eq_of_lt ac ac
 have i4:¬m=0:=ac;have i5:¬((m:Int)=0):=ac;have i1:IntKind.i64.wrap ((k:Int)+(m:Int))=(k:Int)+(m:Int):=IntWalk.i64_in _ ac;clear hg;go_enter Tryz.func107,Tryz.ntmps107
 go_wp2_with fail
 refine HP.o.mono ?_;rintro e w1⟨rfl,hx⟩;have HX:=Aa hx;clear hx;go_wp2_with fail
 go_loopw [1,21] (fun x' j' wr=>∃(j:Nat) (y:Int),j<=k/\j'= .int .i64 j/\x'= .int .i64 y/\Hia (Ar (p^m) y=Tz p m (lw ml) (Ar (p^m) x) j)/\Hia (Ex w wr)) (fun _ j' _=>k-(intOf j').toNat)
 case atStart=>exact⟨0,x,ac,rfl,rfl,Aa rfl,HX⟩
 case round=>
  obtain⟨j,y,hj,rfl,rfl,hy,aB⟩:=hrel;by_cases hjk:j<k
  .have aA:=Pow_any wr (HG.o.ex aB.o) y p ac ac;rw[hy.o]at aA;obtain⟨z,hz⟩:=nA (BK p m (lw ml) (Tz p m (lw ml) (Ar (p^m) x) j) p);have HZ:=Aa (show Ar (p^m) ((z:Nat):Int)=Tz p m (lw ml) (Ar (p^m) x) (j+1) from by
    rw[<-hz,Ay (Dm p2 m1 _ _)];rfl)
   rw[hz]at aA;have aE:=Aa aA;clear aA hz hy;go_wp2_with fail
   refine aE.o.mono ?_;rintro e w2⟨rfl,n2,rfl⟩;go_wp2_with fail
   go_roundw
   case rel=>exact⟨j+1,_,ac,by go_num,rfl,HZ,Aa (aB.o.drewN _)⟩
   case measure=>simp[intOf];omega
  .obtain rfl:j=k:=by omega
   have aC:=Kr wr (HG.o.ex aB.o) y 0;rw[hy.o,Cf,Bt ac (OC p2 m1 (B9 aD _) _)]at aC;have aF:=Aa aC;clear aC;go_wp2_with fail
   refine aF.o.mono ?_;rintro e w2⟨rfl,n2,rfl⟩;go_wp2_with fail
   go_ret;exact⟨rfl,aB.o.drewN _⟩
theorem Sub_any(w:World)(hg:Bh w b p m ml x0)(x y:Int):
  Calls Tryz.prog 268 #[.pointer (some (b,0)),x,y] w (Qt w (.int .i64 (AG p m (Ar (p^m) x) (CH p m (Ar (p^m) y)):Nat))):=by
 have p2:=hg.sh.p2;have HN:=Aa (OY w hg y);have ha:=fun n=>Kr (w.drewN n) (hg.drewN n) x ((CH p m (Ar (p^m) y):Nat):Int);rw[show Ar (p^m) ((CH p m (Ar (p^m) y):Nat):Int)=CH p m (Ar (p^m) y) from Ay (Dh ac _)]at ha;have HA:=Aa ha;clear ha hg;go_enter Tryz.func268,Tryz.ntmps268
 go_wp2_with fail
 refine HN.o.mono ?_;rintro e w1⟨rfl,n1,rfl⟩;go_wp2_with fail
 refine(HA.o n1).mono ?_;rintro e w2⟨rfl,n2,rfl⟩;go_wp2_with fail
 go_ret;exact⟨rfl,_,rfl⟩
theorem zdm{P:Prop}(h:P:=by
 go_wp2_with fail
 go_ret;exact⟨rfl,rfl⟩):P:=h
theorem Cs(w:World)(hg:Bh w b p m ml x0):
  Calls Tryz.prog 54 #[.pointer (some (b,0))] w fun r w'=>r= .returned (.int .i64 ((p^m:Nat):Int))/\w=w':=by
 have c3:=hg.c3;generalize p^m=q at *;clear hg;go_enter Tryz.func54,Tryz.ntmps54
 exact zdm
end
theorem WI{w:World}{a:Option Addr}{n cap:Nat}{l:List Int}(h:Al w (.slice a n cap) l){i:Nat}(hi:i<=l.length):Al w (.slice a i cap) (l.take i):=by
 obtain⟨a',cap',e,h1,h2,h3⟩:=h.open;injection e with e1 e2 e3;subst e1 e3;have hl:(l.take i).length=i:=bn;unfold Al;rw[hl];refine⟨by rw[Bc,hl];omega,a,cap,rfl,ac,h2,fun hn=>?_⟩;obtain⟨b,o,rfl,h4⟩:=h3 ac;refine⟨b,o,rfl,fun j u hu=>?_⟩;simp only[Ao,List.getElem?_map,List.getElem?_take]at hu;split at hu
 .obtain⟨y,hy,rfl⟩:=Option.map_eq_some_iff.1 hu;exact h4 j y hy
 .cases hu
def Mq(l:List Int)(k:Nat):Bool:=(List.range k).any fun i=>(l.take i).contains (l.getD i 0)
def EH(l:List Int):Bool:=Mq l l.length
theorem UX(l:List Int)(k:Nat):Mq l (k+1)=(Mq l k||(l.take k).contains (l.getD k 0)):=by
 unfold Mq;rw[List.range_succ,List.any_append];simp
theorem UY{l:List Int}{k n:Nat}(h:k<=n)(hd:Mq l k=true):Mq l n=true:=by
 unfold Mq at *;obtain⟨i,hi,hb⟩:=List.any_eq_true.1 hd;exact List.any_eq_true.2 ⟨i,List.mem_range.2 (by have:=List.mem_range.1 hi;omega),hb⟩
def BB(l:List Int)(n:Int):Bool:=l.all fun x=>decide (0<=x/\x<n)
def FX(l:List Int)(n:Int):Int:=if BB l n=false then 6 else if EH l=true then 18 else 0
theorem L7(l:List Int)(f:Int->Bool):((List.range l.length).any fun j=>f (l.getD j 0))=l.any f:=by
 rw[Bool.eq_iff_iff,List.any_eq_true,List.any_eq_true];constructor
 .rintro⟨j,hj,h⟩;have hj:=List.mem_range.1 hj;refine⟨l[j],List.getElem_mem hj,?_⟩
  rwa[List.getD_eq_getElem?_getD,List.getElem?_eq_getElem hj]at h
 .rintro⟨x,hx,h⟩;obtain⟨j,hj,rfl⟩:=List.getElem_of_mem hx;exact⟨j,List.mem_range.2 hj,by rw[List.getD_eq_getElem?_getD,List.getElem?_eq_getElem hj];exact h⟩
theorem Oo{l:List Int}{i:Nat}{u:Value}(h:(Ao l)[i]?=some u):∃x,l[i]?=some x/\u= .int .i64 x/\l.getD i 0=x:=by
 unfold Ao at h;rw[List.getElem?_map]at h;obtain⟨x,hx,rfl⟩:=Option.map_eq_some_iff.1 h;exact⟨x,hx,rfl,by rw[List.getD_eq_getElem?_getD,hx];rfl⟩
theorem zce{P:Prop}(h:P:=by
 go_enter Tryz.func197,Tryz.ntmps197
 go_wp2_with fail
 go_ret;exact⟨Ap HR.o,Ex.refl _⟩):P:=h
theorem zb4{P:Prop}(h:P:=by
 clear h0 h1;exact zce):P:=h
theorem WN(w:World)(B:Nat)(n x:Int)(c0:w.cell? (B,0)=some (.int .i64 n)):
  Calls Tryz.prog 197 #[x,.pointer (some (B,0))] w fun r w'=>r= .returned (.bool (!decide (0<=x/\x<n)))/\Ex w w':=by
 by_cases h0:x<0
 .have HR:=Aa (show true=!decide (0<=x/\x<n) from by simp;omega);have b1:decide (x<0)=true:=decide_eq_true h0;clear h0;exact zce
 .have b1:decide (x<0)=false:=decide_eq_false h0;by_cases h1:n<=x
  .have HR:=Aa (show true=!decide (0<=x/\x<n) from by simp;omega);have b2:decide (n<=x)=true:=decide_eq_true h1;exact zb4
  .have HR:=Aa (show false=!decide (0<=x/\x<n) from by simp;omega);have b2:decide (n<=x)=false:=decide_eq_false h1;exact zb4
theorem zdf{P:Prop}(h:P:=by
 go_ret;exact⟨Af HR.o,aF.o.trans aB.o⟩):P:=h
theorem Hk(w:World)(l:List Int)(v:Value)(n:Int)(hl:Al w v l):
  Calls Tryz.prog 150 #[v,n] w fun r w'=>r= .returned (.int .i64 (FX l n))/\Ex w w':=by
 have ea:Ex w (w.alloc (.cells #[n] 3)):=(Ex.refl _).alloc _;have q0:(w.alloc (.cells #[n] 3)).cell? (w.heap.size,0)=some (.int .i64 n):=ag;have HL:=Aa (hl.ex ea);have HC:=Aa (JE (w.alloc (.cells #[n] 3)) (.pointer (some (w.heap.size,0))) v l.length (Ao l) (hl.ex ea) (fun j=> !decide (0<=l.getD j 0/\l.getD j 0<n)) fun w1 i u hx hu=>by
  obtain⟨x,_,rfl,aA⟩:=Oo hu;rw[aA];exact WN w1 w.heap.size n x (hx.cell q0))
 have hc:=HC.o;rw[L7 l fun x=> !decide (0<=x/\x<n)]at hc;have HC:=Aa hc;obtain⟨a,cap,rfl,s1,s2,s3⟩:=hl.open;unfold maxLen at s2;have aF:=Aa ea;clear hl s3 hc ea;by_cases hr:BB l n=true
 .have h1:(l.any fun x=> !decide (0<=x/\x<n))=false:=by
   unfold BB at hr;rw[List.any_eq_false];intro x hx;have:=List.all_eq_true.1 hr x hx;simpa using this
  rw[h1]at HC;have aJ:=Aa (show FX l n=if EH l=true then 18 else 0 from by unfold FX;rw[hr,if_neg ae]);clear hr h1;go_enter Tryz.func150,Tryz.ntmps150
  go_wp2_with fail
  obtain⟨q,hq⟩:=nA w.heap.size;rw[hq]at HC q0
  try simp only[hq]
  clear hq;generalize w.alloc (.cells #[n] 3)=w1 at *;refine HC.o.mono ?_;rintro e w2⟨rfl,aA⟩;have aB:=Aa aA;clear aA;go_wp2_with fail
  go_loopw [12] (fun i' wr=>∃(i:Nat),i<=l.length/\i'= .int .i64 i/\Hia (Mq l i=false)/\Hia (Ex w2 wr)) (fun i' _=>l.length-(intOf i').toNat)
  case atStart=>exact⟨0,ac,rfl,Aa rfl,Aa (Ex.refl _)⟩
  case round=>
   obtain⟨i,hi,rfl,hd,aE⟩:=hrel;have aB:=Aa (aB.o.trans aE.o);by_cases hil:i<l.length
   .obtain⟨x,hx⟩:∃x,l[i]?=some x:=⟨_,List.getElem?_eq_getElem hil⟩;have aI:=Aa (HL.o.ex aB.o);obtain⟨_,_,e1,_,_,h3⟩:=aI.o.open;injection e1 with e1 e2 e3;subst e1;clear e2 e3;obtain⟨zb,zo,rfl,aG⟩:=h3 ac;have c1:=aG i x hx;have aH:l.getD i 0=x:=by rw[List.getD_eq_getElem?_getD,hx];rfl
    have i1:(0:Int)<=(i:Int):=ac;have i2:(i:Int)<(l.length:Int):=ac;have i3:i<=cap:=ac;have i4:(i:Int)<=(cap:Int):=ac;have aD:=Aa (DC wr (l.take i) _ x (WI aI.o ac));have aC:=Aa (UX l i);rw[aH,hd.o,Bool.false_or]at aC;clear hx h3 aG aH hd
    cases hb:(l.take i).contains x with
    | true=>
     rw[hb]at aD aC;have HR:=Aa (show(18:Int)=FX l n from by
      have aK:EH l=true:=UY (show i+1<=l.length by omega) aC.o;rw[aJ.o,if_pos aK])
     clear hb;go_wp2_with (go_at_call 132;refine aD.o.mono ?_;rintro e w5⟨rfl,rfl⟩)
     exact zdf
    | false=>
     rw[hb]at aD aC;clear hb;go_wp2_with (go_at_call 132;refine aD.o.mono ?_;rintro e w5⟨rfl,rfl⟩)
     go_roundw
     case rel=>first|exact⟨i+1,ac,by go_num,aC,aE⟩|((repeat apply Exists.intro);exact⟨⟨i+1,ac,by go_num,aC,aE⟩,rfl⟩)
     case measure=>simp[intOf];omega
   .obtain rfl:i=l.length:=by omega
    have HR:=Aa (show(0:Int)=FX l n from by
     rw[aJ.o,if_neg (by show ¬Mq l l.length=true;rw[hd.o];decide)])
    go_wp2_with fail
    exact zdf
 .have hr:BB l n=false:=by simpa using hr
  have h1:(l.any fun x=> !decide (0<=x/\x<n))=true:=by
   unfold BB at hr;rw[List.all_eq_false]at hr;obtain⟨x,hx,h⟩:=hr;exact List.any_eq_true.2 ⟨x,hx,by simp at h ⊢;omega⟩
  rw[h1]at HC;have HR:=Aa (show(6:Int)=FX l n from by unfold FX;rw[if_pos hr]);clear hr h1;go_enter Tryz.func150,Tryz.ntmps150
  go_wp2_with (go_at_call 116;refine HC.o.mono ?_;rintro e w2⟨rfl,aA⟩;have aB:=Aa aA;clear aA)
  exact zdf
def EU(q:Nat)(l:List Int):Int:=if (l.any fun x=> !Gj q x)=true then 2 else if l.contains 0=true then 7 else 0
section
variable {b p m x0:Nat} {ml:List Int}
theorem zbR{P:Prop}(h:P:=by
 go_wp2_with (go_at_call 199;refine HI.o.mono ?_;rintro e w1⟨rfl,n1,rfl⟩)
 go_ret;exact⟨rfl,(Ex.refl w).drewN _⟩):P:=h
theorem Xg(w:World)(B:Nat)(hg:Bh w b p m ml x0)(x:Int)(c0:w.cell? (B,0)=some (.pointer (some (b,0)))):
  Calls Tryz.prog 198 #[x,.pointer (some (B,0))] w fun r w'=>r= .returned (.bool (!Gj (p^m) x))/\Ex w w':=by
 have HI:=Aa (O3 w hg x);obtain⟨z,hz⟩:=nA (Gj (p^m) x);rw[hz]at HI ⊢;clear hg hz;go_enter Tryz.func198,Tryz.ntmps198
 exact zbR
theorem zbh{P:Prop}(h:P:=by
 subst aB;go_enter Tryz.func151,Tryz.ntmps151
 go_wp2_with (first|(go_at_call 116;refine HC.o.mono ?_;rintro e w2⟨rfl,aA⟩;have aC:=Aa (aD.o.trans aA);clear aA)|(go_at_call 132;refine(aE.o _ aC.o).mono ?_;rintro e w5⟨rfl,rfl⟩))
 go_ret;exact⟨rfl,aC.o⟩):P:=h
theorem JV(w:World)(hg:Bh w b p m ml x0)(l:List Int)(v:Value)(hl:Al w v l):
  Calls Tryz.prog 151 #[.pointer (some (b,0)),v] w fun r w'=>r= .returned (.int .i64 (EU (p^m) l))/\Ex w w':=by
 have ea:Ex w (w.alloc (.cells #[.pointer (some (b,0))] 97)):=(Ex.refl _).alloc _;have q0:(w.alloc (.cells #[.pointer (some (b,0))] 97)).cell? (w.heap.size,0)=some (.pointer (some (b,0))):=ag;have hc:=JF (w.alloc (.cells #[.pointer (some (b,0))] 97)) (.pointer (some (w.heap.size,0))) v l.length (Ao l) (hl.ex ea) (fun j=> !Gj (p^m) (l.getD j 0)) fun w1 i u hx hu=>by
  obtain⟨x,_,rfl,aA⟩:=Oo hu;rw[aA];exact Xg w1 w.heap.size (hg.ex (ea.trans hx)) x (hx.cell q0)
 rw[L7 l fun x=> !Gj (p^m) x]at hc;have HC:=Aa hc;have aE:=Aa (fun w1 (hx:Ex w w1)=>DC w1 l v 0 (hl.ex hx));obtain⟨a,cap,rfl,s1,s2,s3⟩:=hl.open;unfold maxLen at s2;have aD:=Aa ea;obtain⟨R,hR⟩:=nA (EU (p^m) l);have aB:=hR;unfold EU at aB;rw[hR];obtain⟨y,hy⟩:∃y,(l.any fun x=> !Gj (p^m) x)=y:=⟨_,rfl⟩;obtain⟨z,hz⟩:=nA (l.contains 0);rw[hy]at HC aB;rw[hz]at aB aE;clear hl s3 hc ea hy hz hR hg
 cases y with
 | true=>
  rw[if_pos rfl]at aB;subst aB;go_enter Tryz.func151,Tryz.ntmps151
  go_wp2_with (go_at_call 116;refine HC.o.mono ?_;rintro e w2⟨rfl,aA⟩;have aC:=Aa aA;clear aA)
  go_ret;exact⟨rfl,aD.o.trans aC.o⟩
 | false=>
  rw[if_neg ae]at aB
  cases z with
  | true=>
   rw[if_pos rfl]at aB;exact zbh
  | false=>
   rw[if_neg ae]at aB;exact zbh
end
def CI(p m:Int)(ml:List Int)(n:Int)(pl sl:List Int)(fr:Int):Int:=
 if Ce p m ml≠0 then 1 else if n<1∨64<n then 4 else if (pl.length:Int)≠n∨(sl.length:Int)≠n then 3 else
 if BB pl n=false∨fr<0∨m<=fr then 6 else if EH pl=true then 18 else EU (p.toNat^m.toNat) sl
theorem F5(w:World)(p m:Int)(v:Value):(w.alloc (.cells #[p,m,v] 24)).cell? (w.heap.size,0)=some (.int .i64 p)/\(w.alloc (.cells #[p,m,v] 24)).cell? (w.heap.size,1)=some (.int .i64 m)/\
  (w.alloc (.cells #[p,m,v] 24)).cell? (w.heap.size,2)=some v/\Ex w (w.alloc (.cells #[p,m,v] 24)):=⟨ag,ag,ag,(Ex.refl _).alloc _⟩
theorem Bd(w:World)(u v:Value)(fr:Int):(w.alloc (.cells #[u,v,fr] 26)).cell? (w.heap.size,0)=some u/\(w.alloc (.cells #[u,v,fr] 26)).cell? (w.heap.size,1)=some v/\
  (w.alloc (.cells #[u,v,fr] 26)).cell? (w.heap.size,2)=some (.int .i64 fr)/\Ex w (w.alloc (.cells #[u,v,fr] 26)):=⟨ag,ag,ag,(Ex.refl _).alloc _⟩
def OpnR(p m:Int)(ml:List Int)(e:Int)(r:Ending)(w':World):Prop:=
 (e=0/\∃(b pn mn x0:Nat),p=pn/\m=mn/\r= .returned (.tuple #[.pointer (some (b,0)),(0:Int)])/\Bh w' b pn mn ml x0/\1<=x0/\x0<pn^mn)∨
 (e≠0/\∃ptr:Option Addr,r= .returned (.tuple #[.pointer ptr,e]))
theorem Ff{p m:Int}{ml:List Int}{e:Int}(h:e≠0)(aA:Option Addr)(w':World):OpnR p m ml e (.returned (.tuple #[.pointer aA,e])) w':= .inr ⟨h,aA,rfl⟩
theorem zbo{P:Prop}(h:P:=by
 go_wp2_with (go_at_call 150;refine aB.o.mono ?_;rintro e w3⟨rfl,aA⟩;have aC:=Aa (HX.o.trans aA);have a1:=aA.cell a1;have b1:=aA.cell b1;have b2:=aA.cell b2;clear aA)
 go_ret2;exact⟨Ff (by decide) (some ⟨b,0,none⟩) _,aC.o⟩):P:=h
theorem zc5{P:Prop}(h:P:=by
 go_wp2_with fail
 go_ret2;exact⟨Ff (by decide) none _,HX.o⟩):P:=h
theorem zcH{P:Prop}(h:P:=by
 clear hn1 h1;exact zc5):P:=h
theorem Nl(w:World)(p m:Int)(ml:List Int)(mv:Value)(aH:Al w mv ml)(n:Int)(pl sl:List Int)(pv sv:Value)(hp:Al w pv pl)(hs:Al w sv sl)(fr:Int):
  Calls Tryz.prog 91 #[.agg #[p,m,mv],n,.agg #[pv,sv,fr]] w fun r w'=>OpnR p m ml (CI p m ml n pl sl fr) r w'/\Ex w w':=by
 obtain⟨a0,a1,a2,ea⟩:=F5 w p m mv;obtain⟨b0,b1,b2,eb⟩:=Bd (w.alloc (.cells #[p,m,mv] 24)) pv sv fr;have a0:=eb.cell a0;have a1:=eb.cell a1;have a2:=eb.cell a2;have aI:(w.alloc (.cells #[p,m,mv] 24)).heap.size=w.heap.size+1:=ag;rw[aI]at b0 b1 b2;have HE:=Aa (ea.trans eb);have aM:=Aa (F8 p m ml mv _ (aH.ex HE.o));have aO:=Aa (fun w1 (hx:Ex w w1)=>Hk w1 pl pv n (hp.ex hx));have aR:=Aa (fun w1 (hx:Ex w w1) (b pn mn x0:Nat) (hg:Bh w1 b pn mn ml x0)=>JV w1 hg sl sv (hs.ex hx));obtain⟨ma,mc,rfl,_,_,_⟩:=aH.open;obtain⟨pa,pc,rfl,_,p2,_⟩:=hp.open;obtain⟨sa,sc,rfl,_,s2,_⟩:=hs.open;unfold maxLen at p2 s2;obtain⟨E,hE⟩:=nA (CI p m ml n pl sl fr);have hM:=hE;unfold CI at hM;rw[hE];clear aH hp hs hE aI ea eb;go_enter Tryz.func91,Tryz.ntmps91
 go_wp2_with fail
 obtain⟨q,hq⟩:=nA w.heap.size;rw[hq]at a0 a1 a2 b0 b1 b2
 try simp only[hq]
 clear hq;generalize (w.alloc (.cells #[p,m,.slice ma ml.length mc] 24)).alloc (.cells #[.slice pa pl.length pc,.slice sa sl.length sc,fr] 26)=w1 at *;obtain⟨A0,A1,B0,B1,B2⟩:=Of a0 a1 b0 b1 b2;clear a0 a1 a2 b0 b1 b2;refine aM.o.mono ?_;rintro e w2⟨hn,aD⟩;rcases hn with⟨pn,mn,x0,b,rfl,rfl,rfl,hg,x1,x2⟩|⟨hno,rfl⟩
 .have aF:Ce pn mn ml=0:=(Cm _ _ _).2 (hg.fldB x1 x2);rw[if_neg (by rw[aF];decide),Int.toNat_natCast,Int.toNat_natCast]at hM;have HG:=Aa hg;have HX:=Aa (HE.o.trans aD);have a1:=aD.cell A1.o;have b0:=aD.cell B0.o;have b1:=aD.cell B1.o;have b2:=aD.cell B2.o;have HX2:=Aa aD;have aJ:=Aa (show 1<=x0/\x0<pn^mn from⟨x1,x2⟩);clear aF hg aD x1 x2;by_cases hn1:n<1∨64<n
  .rw[if_pos hn1]at hM;subst hM;by_cases h1:n<1
   .have e1:decide (n<1)=true:=decide_eq_true h1;exact zcH
   .have e1:decide (n<1)=false:=decide_eq_false h1;have e2:decide (64<n)=true:=decide_eq_true ac;exact zcH
  .rw[if_neg hn1]at hM;have e1:decide (n<1)=false:=decide_eq_false ac;have e2:decide (64<n)=false:=decide_eq_false ac;by_cases hln:(pl.length:Int)≠n∨(sl.length:Int)≠n
   .rw[if_pos hln]at hM;subst hM;by_cases h1:(pl.length:Int)=n
    .have e3:((pl.length:Int) !=n)=false:=by simpa using h1
     have e4:((sl.length:Int) !=n)=true:=aq;clear hln h1 hn1;exact zc5
    .have e3:((pl.length:Int) !=n)=true:=by simpa using h1
     clear hln h1 hn1;exact zc5
   .rw[if_neg hln]at hM;have e3:((pl.length:Int) !=n)=false:=by simp;omega
    have e4:((sl.length:Int) !=n)=false:=aq;have aB:=Aa (aO.o w2 HX.o);clear hln hn1;by_cases hr:BB pl n=true
    .obtain⟨D,hD⟩:=nA (EH pl);have aE:FX pl n=if D=true then 18 else 0:=by unfold FX;rw[if_neg (by rw[hr];decide),hD]
     rw[hD]at hM;rw[aE]at aB;by_cases hf:fr<0∨(mn:Int)<=fr
     .rw[if_pos (.inr hf)]at hM;subst hM;cases D <;> (
       first|rw[if_pos rfl]at aB|rw[if_neg ae]at aB
       by_cases h1:fr<0
       .have e5:decide (fr<0)=true:=decide_eq_true h1;clear hf h1 aE hD;exact zbo
       .have e5:decide (fr<0)=false:=decide_eq_false h1;have e6:decide ((mn:Int)<=fr)=true:=decide_eq_true ac;clear hf h1 aE hD;go_wp2_with (go_at_call 150;refine aB.o.mono ?_;rintro e w3⟨rfl,aA⟩;have aC:=Aa (HX.o.trans aA);have a1:=aA.cell a1;have b1:=aA.cell b1;have b2:=aA.cell b2;clear aA)
        go_ret2;exact⟨Ff ae (some ⟨b,0,none⟩) _,aC.o⟩)
     .rw[if_neg (by
        rintro (h|h);·rw[hr]at h;cases h
        .exact hf h)]at hM
      have e5:decide (fr<0)=false:=decide_eq_false ac;have e6:decide ((mn:Int)<=fr)=false:=decide_eq_false ac
      cases D with
      | true=>
       rw[if_pos rfl]at aB hM;subst hM;clear hf aE hD;exact zbo
      | false=>
       rw[if_neg ae]at aB hM;have aN:=Aa hM;clear hf aE hD hM;go_wp2_with (go_at_call 150;refine aB.o.mono ?_;rintro e w3⟨rfl,aA⟩;have aC:=Aa (HX.o.trans aA);have a1:=aA.cell a1;have b1:=aA.cell b1;have b2:=aA.cell b2;have aK:=Aa (HG.o.ex aA);have aQ:=Aa (aR.o w3 aC.o b pn mn x0 aK.o);clear aA)
       refine aQ.o.mono ?_;rintro e w4⟨rfl,aG⟩;have aL:=Aa (aC.o.trans aG);have aP:=Aa (aK.o.ex aG);rw[aN.o];clear aG;go_wp2_with fail
       go_ret2;refine⟨?_,aL.o⟩;by_cases h0:E=0
       .subst h0;exact .inl ⟨rfl,b,pn,mn,x0,rfl,rfl,rfl,aP.o,aJ.o.1,aJ.o.2⟩
       .exact Ff h0 (some ⟨b,0,none⟩) _
    .have hr:BB pl n=false:=by simpa using hr
     have aE:FX pl n=6:=by unfold FX;rw[if_pos hr]
     rw[aE]at aB;rw[if_pos (.inl hr)]at hM;subst hM;clear aE hr;exact zbo
 .have aF:Ce p m ml≠0:=fun h=>hno ((Cm _ _ _).1 h);rw[if_pos aF]at hM;subst hM;clear aF hno;go_wp2_with fail
  go_ret2;exact⟨Ff ae none _,HE.o.trans aD⟩
theorem zdi{P:Prop}(h:P:=by
 go_wp2_with fail
 go_ret;exact⟨rfl,HX.o⟩):P:=h
theorem R8(w:World)(p m:Int)(ml:List Int)(mv:Value)(aB:Al w mv ml)(n:Int)(pl sl:List Int)(pv sv:Value)(hp:Al w pv pl)(hs:Al w sv sl)(fr:Int):
  Calls Tryz.prog 51 #[.agg #[p,m,mv],n,.agg #[pv,sv,fr]] w fun r w'=>r= .returned (.int .i64 (CI p m ml n pl sl fr))/\Ex w w':=by
 obtain⟨ma,mc,rfl,_,_,_⟩:=aB.open;obtain⟨pa,pc,rfl,_,_,_⟩:=hp.open;obtain⟨sa,sc,rfl,_,_,_⟩:=hs.open;have HO:=Aa (fun w1 (hx:Ex w w1)=>Nl w1 p m ml _ (aB.ex hx) n pl sl _ _ (hp.ex hx) (hs.ex hx) fr);obtain⟨E,hE⟩:=nA (CI p m ml n pl sl fr);rw[hE]at HO ⊢;clear hE aB hp hs;go_enter Tryz.func51,Tryz.ntmps51
 go_wp2_with fail
 refine(HO.o _ (((Ex.refl w).alloc _).alloc _)).mono ?_;rintro e w2⟨hr,aA⟩;have HX:=Aa ((((Ex.refl w).alloc _).alloc _).trans aA);rcases hr with⟨rfl,b,pn,mn,x0,rfl,rfl,rfl,hg,_,_⟩|⟨h0,ptr,rfl⟩
 .clear hg aA;exact zdi
 .clear aA h0;exact zdi
section
variable {p m:Nat} {ml:List Int} {N R:Nat}
def ks(p m:Nat)(g:Nat->Nat):Nat->Nat
 | 0=>0
 | n+1=>AG p m (ks p m g n) (g n)
theorem ks_lt(hp:1<=p)(g:Nat->Nat):∀n,ks p m g n<p^m
 | 0=>Nat.pow_pos (by omega)
 | n+1=>E4 hp _ _
theorem GC{g h:Nat->Nat}:∀n,(∀j,j<n->g j=h j)->ks p m g n=ks p m h n
 | 0,_=>rfl
 | n+1,e=>by
  show AG p m _ _=AG p m _ _
  rw[GC n fun j hj=>e j (by omega),e n (by omega)]
theorem Hm(f x:Nat->Int):dt p m ml N f x=ks p m (fun j=>Ai p m (lw ml) (Ar (p^m) (f j)) (Ar (p^m) (x j))) N:=by
 have aA:∀n,n<=N->Sb p m ml N f x n=ks p m (fun j=>Ai p m (lw ml) (Ar (p^m) (f j)) (Ar (p^m) (x j))) n:=fun n=>by
  induction n with
  | zero=>intro _;rw[Dw];rfl
  | succ n ih=>
   intro hn;rw[Dx _ _ ac,ih ac];rfl
 rw[<-Ev,aA N (Nat.le_refl _)]
def Og(p m:Nat)(g:Nat->Nat)(l:List Nat):Nat:=l.foldr (fun j s=>AG p m s (g j)) 0
theorem ksL_lt(hp:1<=p)(g:Nat->Nat):∀l,Og p m g l<p^m
 | []=>Nat.pow_pos (by omega)
 | j :: l=>E4 hp _ _
theorem Tg(hp:1<=p)(g:Nat->Nat):∀l k,Og p m g (l++k)=AG p m (Og p m g l) (Og p m g k)
 | [],k=>by
  show Og p m g k=AG p m 0 _
  rw[DK hp (ksL_lt hp g k)]
 | j :: l,k=>by
  show AG p m (Og p m g (l++k)) (g j)=AG p m (AG p m (Og p m g l) (g j)) _
  rw[Tg hp g l k,BG hp,BG hp,DT (Og p m g k)]
theorem Jl(hp:1<=p){g:Nat->Nat}(hg:∀j,g j<p^m):∀n,Og p m g (List.range n)=ks p m g n
 | 0=>rfl
 | n+1=>by
  rw[List.range_succ,Tg hp,Jl hp hg n];show AG p m _ (AG p m 0 (g n))=AG p m _ _
  rw[DK hp (hg n)]
theorem WA(hp:1<=p)(g:Nat->Nat){l k:List Nat}(h:l.Perm k):Og p m g l=Og p m g k:=by
 induction h with
 | nil=>rfl
 | @cons x l1 l2 _ ih=>show AG p m (Og p m g l1) (g x)=AG p m (Og p m g l2) (g x);rw[ih]
 | swap x y l=>
  show AG p m (AG p m (Og p m g l) (g x)) (g y)=AG p m (AG p m (Og p m g l) (g y)) (g x)
  rw[BG hp,BG hp,DT (g x)]
 | trans _ _ i1 i2=>rw[i1,i2]
theorem Tf(g:Nat->Nat)(f:Nat->Nat):∀l:List Nat,Og p m g (l.map f)=Og p m (fun j=>g (f j)) l
 | []=>rfl
 | j :: l=>by show AG p m (Og p m g (l.map f)) (g (f j))=AG p m (Og p m (fun j=>g (f j)) l) (g (f j));rw[Tf g f l]
structure F9(N:Nat)(π:Nat->Nat):Prop where
 lt:∀i,i<N->π i<N
 inj:∀i j,i<N->j<N->π i=π j->i=j
theorem F9.perm{π:Nat->Nat}(h:F9 N π):((List.range N).map π).Perm (List.range N):=by
 have aB:((List.range N).map π).Nodup:=Dg fun i j hj aC e=>by
  have:=h.inj i j ac hj e;omega
 have aA:∀x,x<N->x∈(List.range N).map π:=fun x hx=>by
  have:=RH N (((List.range N).map π).map (·+ 1)) (by
   rw[List.map_map];exact Dg fun i j hj aC e=>by
    have e:π i+1=π j+1:=e;have:=h.inj i j ac hj ac;omega) ag (fun y hy=>by
   obtain⟨z,hz,rfl⟩:=List.mem_map.1 hy;obtain⟨i,hi,rfl⟩:=List.mem_map.1 hz;have:=h.lt i (List.mem_range.1 hi);omega) (x+1) ac ac
  obtain⟨z,hz,e⟩:=List.mem_map.1 this;have:z=x:=by have e:z+1=x+1:=e;omega
  rw[<-this];exact hz
 refine(List.perm_ext_iff_of_nodup aB List.nodup_range).2 fun x=>⟨fun hx=>?_,fun hx=>aA x (List.mem_range.1 hx)⟩;obtain⟨i,hi,rfl⟩:=List.mem_map.1 hx;exact List.mem_range.2 (h.lt i (List.mem_range.1 hi))
theorem F9.surj{π:Nat->Nat}(h:F9 N π){j:Nat}(hj:j<N):∃i,i<N/\π i=j:=by
 have:=h.perm.mem_iff.2 (List.mem_range.2 hj);obtain⟨i,hi,e⟩:=List.mem_map.1 this;exact⟨i,List.mem_range.1 hi,e⟩
theorem F9.sum(hp:1<=p){π:Nat->Nat}(h:F9 N π){g:Nat->Nat}(hg:∀j,g j<p^m):ks p m (fun i=>g (π i)) N=ks p m g N:=by
 rw[<-Jl hp hg,<-Jl hp fun i=>hg (π i),<-Tf,WA hp g h.perm]
def plc(π:Nat->Nat)(v:Nat->Int):Nat->Nat->Int
 | 0=>fun _=>0
 | k+1=>Az (plc π v k) (π k) (v k)
theorem KZ{π:Nat->Nat}(h:F9 N π)(v:Nat->Int):∀k,k<=N->∀i,i<k->plc π v k (π i)=v i
 | 0,_,i,hi=>by omega
 | k+1,hk,i,hi=>by
  show Az (plc π v k) (π k) (v k) (π i)=v i
  by_cases e:i=k
  .subst e;exact Ab _ _ _
  .rw[Ad _ _ fun e2=>e (h.inj i k (by omega) (by omega) e2)];exact KZ h v k (by omega) i (by omega)
theorem OJ(hp:1<=p){π:Nat->Nat}(h:F9 N π)(v x:Nat->Int):dt p m ml N (plc π v N) x=dt p m ml N v (fun i=>x (π i)):=by
 rw[Hm,Hm,<-h.sum hp fun j=>AY hp _ _];exact GC N fun i hi=>by rw[KZ h v N (Nat.le_refl _) i hi]
end
def BF(pl:List Int)(i:Nat):Nat:=(pl.getD i 0).toNat
def vF(p m:Nat)(ml sl:List Int)(fr:Nat)(x:List Int)(i:Nat):Int:=
 ((Ai p m (lw ml) (Ar (p^m) (sl.getD i 0)) (Tz p m (lw ml) (Ar (p^m) (x.getD i 0)) fr):Nat):Int)
def Ln(p m:Nat)(ml pl sl:List Int)(fr:Nat)(x:List Int)(N:Nat):Nat->Int:=plc (BF pl) (vF p m ml sl fr x) N
theorem dk{P:Prop}(h:P:=by rw[List.getD_eq_getElem?_getD,List.getElem?_eq_getElem hi];exact List.getElem_mem _):P:=h
theorem Df{l:List Int}{n:Int}(h:BB l n=true){i:Nat}(hi:i<l.length):0<=l.getD i 0/\l.getD i 0<n:=by
 unfold BB at h;have:=List.all_eq_true.1 h (l.getD i 0) dk;simpa using this
theorem AS{l:List Int}{i:Nat}(hi:i<l.length):l[i]?=some (l.getD i 0):=by
 rw[List.getD_eq_getElem?_getD,List.getElem?_eq_getElem hi];rfl
section
variable {b p m x0:Nat} {ml:List Int}
theorem UQ(w:World)(hg:Bh w b p m ml x0)(N:Nat)(hN:N<=64)(pl sl x:List Int)(pv sv xv:Value)(hp:Al w pv pl)(hs:Al w sv sl)(hx:Al w xv x)(fr:Nat)(bF:fr<m)(aH:pl.length=N)(aG:sl.length=N)(aK:x.length=N)(hr:BB pl N=true):
  Calls Tryz.prog 92 #[.pointer (some (b,0)),.agg #[pv,sv,fr],xv] w fun r w'=>∃g,r= .returned (.slice (some ⟨g,0,none⟩) N N)/\AH w' w.heap.size 3 g N (iv (Ln p m ml pl sl fr x N))/\Ex w w':=by
 obtain⟨b0,b1,b2,eb⟩:=Bd w pv sv fr;have p2:=hg.sh.p2;have m1:=hg.sh.m1;have bO:=Aa (fun (w1:World) (h1:Ex w w1) (y:Int)=>MK w1 (hg.ex h1) y fr bF);have bK:=Aa (fun (w1:World) (h1:Ex w w1) (y z:Int)=>Fa w1 (hg.ex h1) y z);obtain⟨pa,pc,rfl,_,q2,p3⟩:=hp.open;obtain⟨sa,sc,rfl,_,s2,s3⟩:=hs.open;obtain⟨xa,xc,rfl,_,x2,x3⟩:=hx.open;unfold maxLen at q2 s2 x2;rw[aH]at p3;rw[aG]at s3;rw[aK]at x3;rw[aH,aG,aK];rw[aH,aG]at b0 b1 eb b2;obtain⟨P3,S3,X3,bJ,bN,bM,bL,aE⟩:=On p3 s3 x3 (fun i (hi:i<N)=>Df hr (i:=i) ac) (fun i (hi:i<N)=>AS (l:=pl) (i:=i) ac) (fun i (hi:i<N)=>AS (l:=sl) (i:=i) ac) (fun i (hi:i<N)=>AS (l:=x) (i:=i) ac) eb;clear hg hp hs hx p3 s3 x3 eb aH aG aK hr;go_enter Tryz.func92,Tryz.ntmps92
 go_wp2_with (at_make;refine Au _ rfl _ _ 22 rfl 3 (.int .i64 0) 8 Tryz.underlying22 AC rfl _ N rfl rfl rfl ac ai ?_)
 obtain⟨B,hB⟩:=nA w.heap.size;rw[hB]at b0 b1 b2
 try simp only[hB]
 have bQ:=Aa hB;have aT:(w.alloc (.cells #[.slice pa N pc,.slice sa N sc,fr] 26)).heap.size=B+1:=by simp[hB]
 clear hB;generalize w.alloc (.cells #[.slice pa N pc,.slice sa N sc,fr] 26)=w1 at *;intro w3 aA aR;have B0:=Aa b0;have B1:=Aa b1;have B2:=Aa b2;obtain⟨g,aI⟩:=nA (B+1);have aX:=Aa (show AH w3 g 3 g N (iv (plc (BF pl) (vF p m ml sl fr x) 0)) from by rw[<-aI];exact aA)
 try simp only[aI]
 have bH:=Aa aR;have aZ:=Aa (show w1.heap.size=g from by rw[<-aI,<-aT]);clear aA aR b0 b1 b2 aI aT;go_wp2_with fail
 go_loopw [15] (fun i' wr=>∃(i:Nat),i<=N/\i'= .int .i64 i/\Hia (AH wr g 3 g N (iv (plc (BF pl) (vF p m ml sl fr x) i)))/\Hia (Ex w1 wr)) (fun i' _=>N-(intOf i').toNat)
 case atStart=>exact⟨0,ac,rfl,aX,bH⟩
 case round=>
  clear aX;obtain⟨i,hi,rfl,aA,aB⟩:=hrel;by_cases hin:i<N
  .obtain⟨pb,po,rfl,aV⟩:=P3.o ac;obtain⟨sb,so,rfl,aU⟩:=S3.o ac;obtain⟨xb,xo,rfl,aQ⟩:=X3.o ac;have bE:=bJ.o i hin;have aF:=Aa (aE.o.trans aB.o);obtain⟨y,hy⟩:=nA (BF pl i);have aP:pl.getD i 0=(y:Int):=by rw[<-hy];unfold BF;omega
   have bD:y<N:=ac;have aN:=bN.o i hin;rw[aP]at aN;have bC:=Aa (aV i _ aN);have cp:=aF.o.cell bC.o;obtain⟨s,hs⟩:=nA (sl.getD i 0);have aM:=bM.o i hin;rw[hs]at aM;have bB:=Aa (aU i _ aM);have cs:=aF.o.cell bB.o;obtain⟨z,hz⟩:=nA (x.getD i 0);have aL:=bL.o i hin;rw[hz]at aL;have cx:=aF.o.cell (aQ i _ aL);have i1:(0:Int)<=(i:Int):=ac;have i2:(i:Int)<(N:Int):=ac;have i3:(0:Int)<=(y:Int):=ac;have i4:(y:Int)<(N:Int):=ac;have bA:=Aa (fun (w5:World) (h5:Ex wr w5)=>bO.o w5 (aF.o.trans h5) z);obtain⟨t,ht⟩:=nA (Tz p m (lw ml) (Ar (p^m) z) fr);have aS:t<p^m:=by rw[<-ht];exact OC p2 m1 (B9 (Nat.pow_pos ac) _) _
   rw[ht]at bA;have aY:=Aa (fun (w5:World) (h5:Ex wr w5)=>by
    have:=bK.o w5 (aF.o.trans h5) s (t:Int);rw[Ay aS]at this;exact this)
   obtain⟨u,hu⟩:=nA (Ai p m (lw ml) (Ar (p^m) s) t);rw[hu]at aY;have bI:=Aa (show Az (plc (BF pl) (vF p m ml sl fr x) i) y (u:Int)=plc (BF pl) (vF p m ml sl fr x) (i+1) from by
    show _=Az (plc (BF pl) (vF p m ml sl fr x) i) (BF pl i) (vF p m ml sl fr x i)
    rw[hy]
    congr 1
    unfold vF;rw[hs,hz,ht,hu])
   have d0:=aB.o.cell B0.o;have d1:=aB.o.cell B1.o;have d2:=aB.o.cell B2.o;have aJ:=Aa aA.o;have bP:=Aa aB.o;have aC:=Aa (fun (w5:World) (h5:Ex wr w5)=>(aJ.o.ex h5).exSet (a:=w1) (Nat.le_of_eq aZ.o) (bP.o.trans h5) y (.int .i64 (u:Int)));have aW:=Aa (fun (w5:World) (h5:Ex wr w5)=>show AH (w5.setCell (g,y) (.int .i64 (u:Int))) g 3 g N (iv (plc (BF pl) (vF p m ml sl fr x) (i+1))) from by
    rw[<-bI.o,<-CC];exact(aJ.o.ex h5).set y _)
   obtain⟨CP,CS,CX,bG⟩:=Eq cp cs cx bD;clear bE hy aP aN hs aM hz aL ht aS hu aV aU aQ aA aB;go_wp2_with fail
   have bT:=Aa d0;have bS:=Aa d1;have bR:=Aa d2;have aD:=Aa (fun (w5:World) (h5:Ex wr w5)=>(⟨h5.cell CP.o,h5.cell CS.o,h5.cell bT.o,h5.cell bS.o,h5.cell bR.o⟩:w5.cell? (pb,po+i)=some (.int .i64 (y:Int))/\w5.cell? (sb,so+i)=some (.int .i64 s)/\w5.cell? (B,0)=some (.slice (some (pb,po)) N pc)/\w5.cell? (B,1)=some (.slice (some (sb,so)) N sc)/\w5.cell? (B,2)=some (.int .i64 (fr:Int))));have aO:=Aa (fun (w5:World) (h5:Ex wr w5)=>(⟨(aE.o.trans (aC.o w5 h5)).cell bC.o,(aE.o.trans (aC.o w5 h5)).cell bB.o,(aC.o w5 h5).cell B0.o,(aC.o w5 h5).cell B1.o,(aC.o w5 h5).cell B2.o⟩:(w5.setCell (g,y) (.int .i64 (u:Int))).cell? (pb,po+i)=some (.int .i64 (y:Int))/\(w5.setCell (g,y) (.int .i64 (u:Int))).cell? (sb,so+i)=some (.int .i64 s)/\(w5.setCell (g,y) (.int .i64 (u:Int))).cell? (B,0)=some (.slice (some (pb,po)) N pc)/\(w5.setCell (g,y) (.int .i64 (u:Int))).cell? (B,1)=some (.slice (some (sb,so)) N sc)/\(w5.setCell (g,y) (.int .i64 (u:Int))).cell? (B,2)=some (.int .i64 (fr:Int))));clear d0 d1 d2 cp cs;have G0:Ex wr wr.drew:=(Ex.refl wr).drew
   go_region_held3 (fun w'=>w'.cell? (pb,po+i)=some (.int .i64 (y:Int))/\w'.cell? (sb,so+i)=some (.int .i64 s)/\w'.cell? (B,0)=some (.slice (some (pb,po)) N pc)/\w'.cell? (B,1)=some (.slice (some (sb,so)) N sc)/\w'.cell? (B,2)=some (.int .i64 (fr:Int)))
    (first|with_reducible exact aD.o _ G0|with_reducible exact aD.o _ X5|with_reducible exact aD.o _ X6|with_reducible exact aO.o _ X6)
    (first|(go_at_call 107;(with_reducible refine(bA.o _ G0).mono ?_);rintro e w5⟨rfl,h5⟩;have X5:=G0.trans h5;clear h5)|(go_at_call 106;(with_reducible refine(aY.o _ X5).mono ?_);rintro e w6⟨rfl,n6,rfl⟩;have X6:=X5.drewN n6;have co6:=(aJ.o.ex X6).cell bG.o;have cf6:=(aJ.o.ex X6).frz y))
   go_wp2_with fail
   go_roundw
   case rel=>first|exact⟨i+1,ac,by go_num,Aa (aW.o _ X6),Aa (aC.o _ X6)⟩|((repeat apply Exists.intro);exact⟨⟨i+1,ac,by go_num,Aa (aW.o _ X6),Aa (aC.o _ X6)⟩,rfl⟩)
   case measure=>simp[intOf];omega
  .obtain rfl:i=N:=by omega
   go_wp2_with fail
   go_ret;exact⟨g,rfl,aA.o.mono (by have:=aZ.o;have:=bQ.o;have:=aE.o.size;omega),aE.o.trans aB.o⟩
end
theorem WP:(Tryz.prog.info? 22).map (fun i=>(i.zero,i.size,i.bytes))=some (some (.slice none 0 0),1,24):=ah
def Ak(rows:List (List Int))(i j:Nat):Int:=(rows.getD i []).getD j 0
structure EK(w0 w:World)(g R N:Nat)(blk cap:Nat->Nat)(a:Nat->Nat->Int)(k:Nat):Prop where
 arr:AH w w0.heap.size 22 g R (fun i=>if i<k then Ej blk cap N i else .slice none 0 0)
 row:∀i,i<k->A9 w w0.heap.size 3 (blk i) N (cap i) (iv (a i))
 apart:∀i j,i<k->j<k->i≠j->blk i≠blk j
 off:∀i,i<k->blk i≠g
 ex:Ex w0 w
theorem EK.later{w0 w w':World}{g R N:Nat}{blk cap:Nat->Nat}{a:Nat->Nat->Int}{k:Nat}(h:EK w0 w g R N blk cap a k)(hx:Ex w w'):EK w0 w' g R N blk cap a k:=
 ⟨h.arr.ex hx,fun i hi=>(h.row i hi).ex hx,h.apart,h.off,h.ex.trans hx⟩
theorem za8{P:Prop}(h:P:=by
 rw[if_neg h,if_neg (by omega)]):P:=h
theorem EK.put{w0 w:World}{g R N:Nat}{blk cap:Nat->Nat}{a:Nat->Nat->Int}{k:Nat}(h:EK w0 w g R N blk cap a k){w':World}(hx:Ex w w'){nb nc:Nat}(hn:A9 w' w.heap.size 3 nb N nc (iv (a k)))(hw:w0.heap.size<=w.heap.size):
  EK w0 (w'.setCell (g,k) (.slice (some (nb,0)) N nc)) g R N (Az blk k nb) (Az cap k nc) a (k+1):=by
 have h1:=h.later hx;have hgl:=h.arr.lt.2;have hnl:=hn.lt.1;have aA:nb≠g:=ac;refine⟨(h1.arr.set k _).congr fun i hi=>?_,fun i hi=>?_,fun i j hi hj aB=>?_,fun i hi=>?_,h1.arr.exSet (Nat.le_refl _) h1.ex k _⟩
 .by_cases e:i=k
  .subst e;rw[Ab];show _=(if i<i+1 then Ej (Az blk i nb) (Az cap i nc) N i else .slice none 0 0)
   rw[if_pos ac];unfold Ej;rw[Ab,Ab]
  .rw[Ad _ _ e];show(if i<k then Ej blk cap N i else .slice none 0 0)=(if i<k+1 then Ej (Az blk k nb) (Az cap k nc) N i else .slice none 0 0)
   by_cases h:i<k
   .rw[if_pos h,if_pos ac];unfold Ej;rw[Ad _ _ e,Ad _ _ e]
   .exact za8
 .by_cases e:i=k
  .subst e;rw[Ab,Ab];exact(show A9 w' w0.heap.size 3 nb N nc (iv (a i)) from Bj hn hw).other aA _
  .rw[Ad _ _ e,Ad _ _ e];exact(h1.row i ac).other (h.off i ac) _
 .by_cases e:i=k
  .subst e;rw[Ab,Ad _ _ (fun e=>aB e.symm)];have:=(h.row j ac).lt.2;omega
  .by_cases e2:j=k
   .subst e2;rw[Ab,Ad _ _ e];have:=(h.row i ac).lt.2;omega
   .rw[Ad _ _ e,Ad _ _ e2];exact h.apart i j ac ac aB
 .by_cases e:i=k
  .subst e;rw[Ab];exact aA
  .rw[Ad _ _ e];exact h.off i ac
theorem EK.done{w0 w:World}{g R N:Nat}{blk cap:Nat->Nat}{a:Nat->Nat->Int}(h:EK w0 w g R N blk cap a R):EM w w0.heap.size g R N blk cap a []:=
 ⟨h.arr.congr fun i hi=>by show(if i<R then Ej blk cap N i else .slice none 0 0)=_;rw[if_pos hi],h.row,h.apart,h.off,fun B hB=>by cases hB⟩
theorem U2(w:World)(N R:Nat)(rows:List (List Int))(v:Value)(hv:BZ w v rows)(hR:rows.length=R)(hR2:R<=256)(hN1:1<=N)(hN:N<=256)(hr:∀(i:Nat) (r:List Int),rows[i]?=some r->r.length=N):
  Calls Tryz.prog 202 #[v] w fun r w'=>∃g blk cap,r= .returned (.slice (some ⟨g,0,none⟩) R R)/\EM w' w.heap.size g R N blk cap (Ak rows) []/\Ex w w':=by
 obtain⟨za,zc,rfl,z1,z2,z3⟩:=hv.open;rw[hR]at z1 z3 ⊢;unfold maxLen at z2;have Z3:=Aa z3;have aN:=Aa hr;have aM:=Aa hR;clear z3 hr hv hR;go_enter Tryz.func202,Tryz.ntmps202
 go_wp2_with (at_make;refine Au _ rfl _ _ 37 rfl 22 (.slice none 0 0) 24 Tryz.underlying37 WP rfl _ R rfl rfl rfl ac ai ?_)
 intro w3 aA aI;obtain⟨g,aD⟩:=nA w.heap.size;have HSZ:=Aa aD;have aG:=Aa (show EK w w3 w.heap.size R N (fun _=>0) (fun _=>0) (Ak rows) 0 from⟨aA.congr fun i hi=>ag,fun i hi=>ac,fun i j hi=>ac,fun i hi=>ac,aI⟩);rw[aD]at aG
 try simp only[aD]
 clear aA aI aD;go_wp2_with fail
 go_loopw [11] (fun k' wr=>∃(k:Nat) (blk cap:Nat->Nat),k<=R/\k'= .int .i64 k/\Hia (EK w wr g R N blk cap (Ak rows) k)) (fun k' _=>R-(intOf k').toNat)
 case atStart=>exact⟨0,_,_,ac,rfl,aG⟩
 case round=>
  clear aG;obtain⟨k,blk,cap,hk,rfl,aB⟩:=hrel;by_cases hkR:k<R
  .obtain⟨zb,zo,rfl,aH⟩:=Z3.o ac;obtain⟨r,aC⟩:∃r,rows[k]?=some r:=⟨_,List.getElem?_eq_getElem (by rw[aM.o];exact hkR)⟩;obtain⟨uz,c1,aF⟩:=aH k r aC;have c1:=aB.o.ex.cell c1;have aJ:=aN.o k r aC;have HC:=Aa (JH wr r uz (aF.ex aB.o.ex) ac ac);obtain⟨ua,uc,rfl,_,u2,_⟩:=aF.open;rw[aJ]at HC c1;have i1:(0:Int)<=(k:Int):=by omega
   have i2:(k:Int)<(R:Int):=ac;have aO:=Aa (show(fun j=>r.getD j 0)=Ak rows k from by
    funext j;unfold Ak;rw[List.getD_eq_getElem?_getD (l:=rows),aC];rfl)
   have aK:=aB.o.arr.cell hkR;have aL:=aB.o.arr.frz k;clear aH aF aC aJ;go_wp2_with (go_at_call 154;refine HC.o.mono ?_;rintro e w4⟨gg,cc,rfl,aA,aE⟩;have hcg2:=aE.cell aK;have hfg2:=aE.frz aK aL)
   rw[aO.o]at aA;have HP:=Aa (aB.o.put aE aA aB.o.ex.size);go_roundw
   case rel=>first|exact⟨k+1,_,_,ac,by go_num,HP⟩|((repeat apply Exists.intro);exact⟨⟨k+1,_,_,ac,by go_num,HP⟩,rfl⟩)
   case measure=>simp[intOf];omega
  .obtain rfl:R=k:=by omega
   have HE:=Aa aB.o.done;have HX:=Aa aB.o.ex;clear aB;go_wp2_with fail
   go_ret;exact⟨g,blk,cap,rfl,HE.o,HX.o⟩
theorem EM.low{w:World}{base g R N:Nat}{blk cap:Nat->Nat}{a:Nat->Nat->Int}(h:EM w base g R N blk cap a []){A:Addr}(hA:A.block<base)(u:Value):EM (w.setCell A u) base g R N blk cap a []:=
 ⟨h.arr.other (by have:=h.arr.lt;omega) u,fun i hi=>(h.row i hi).other (by have:=(h.row i hi).lt;omega) u,h.apart,h.off,fun B hB=>by cases hB⟩
def Aw(N k:Nat)(a:Nat->Nat->Int):List (List Int):=(List.range k).map fun i=>il N (a i)
theorem Dq{N k i:Nat}{a:Nat->Nat->Int}(h:i<k):(Aw N k a)[i]?=some (il N (a i)):=by unfold Aw;simp[h]
theorem AZ(N k:Nat)(a:Nat->Nat->Int):(Aw N k a).length=k:=by unfold Aw;simp
theorem EM.msl{w:World}{base g R N k:Nat}{blk cap:Nat->Nat}{a:Nat->Nat->Int}{avs:List Nat}(h:EM w base g R N blk cap a avs)(hk:k<=R)(hR:R<=256):BZ w (.slice (some (g,0)) k k) (Aw N k a):=by
 refine⟨(List.range k).map fun i=>Ej blk cap N i,?_,fun i r u h1 h2=>?_⟩
 .rw[AZ];refine⟨ag,some ⟨g,0,none⟩,k,rfl,Nat.le_refl _,by unfold maxLen;omega,fun h0=>⟨g,0,rfl,fun i z hz=>?_⟩⟩;have hi:i<k:=by have:=(List.getElem?_eq_some_iff.1 hz).1;simpa using this
  simp[hi]at hz;subst hz;rw[Nat.zero_add];exact h.cell ac
 .have hi:i<k:=by have:=(List.getElem?_eq_some_iff.1 h1).1;rw[AZ]at this;exact this
  rw[Dq hi]at h1;injection h1 with h1;subst h1;simp[hi]at h2;subst h2;exact(h.row i ac).isl
theorem zbX{P:Prop}(h:P:=by
 refine Lx h2 _ ?_;rw[List.getD_eq_getElem?_getD,List.getElem?_eq_getElem (by omega)];exact List.getElem_mem _):P:=h
theorem Sc{p m:Nat}{ml:List Int}{b x0:Nat}(w:World)(hg:Bh w b p m ml x0)(aL:1<=x0)(aK:x0<p^m)(N R:Nat)(rows:List (List Int))(v:Value)(hv:BZ w v rows)(hR:rows.length=R)(aE:R<=256)(aM:1<=N)(hN:N<=256)(hr:∀(i:Nat) (r:List Int),rows[i]?=some r->r.length=N/\Cc (p^m) r=0):
  Calls Tryz.prog 157 #[.pointer (some (b,0)),v,N] w fun r w'=>∃piv pv rv a',r= .returned (.tuple #[rv,pv])/\H7 p m ml N R (Ak rows) a' piv/\BZ w' rv (Aw N piv.length a')/\Al w' pv (pI piv)/\Ex w w'/\∃g blk cap,rv= .slice (some ⟨g,0,none⟩) piv.length piv.length/\EM w' w.heap.size g R N blk cap a' []/\∀B,pv.ownBlock=some B->w.heap.size<=B:=by
 have aA:QZ p m R N (Ak rows):=fun i hi j hj=>by
  obtain⟨r,aF⟩:∃r,rows[i]?=some r:=⟨_,List.getElem?_eq_getElem ac⟩;obtain⟨h1,h2⟩:=hr i r aF;have e:Ak rows i j=r.getD j 0:=by unfold Ak;rw[List.getD_eq_getElem?_getD (l:=rows),aF];rfl
  rw[e];exact zbX
 have HC:=Aa (U2 w N R rows v hv hR aE aM hN fun i r h=>(hr i r h).1);have HG:=Aa hg;have aN:=Aa aA;clear hv hr aA hg;go_enter Tryz.func157,Tryz.ntmps157
 go_wp2_with (go_at_call 202;refine HC.o.mono ?_;rintro e w1⟨g,blk,cap,rfl,hem,hx1_⟩)
 refine(Xl w w1 HG.o aL aK hx1_ hem (Nat.le_refl _) hN aE aN.o).mono ?_;rintro e w2⟨piv,pv,det,blk',cap',a',rfl,aB,aD,aC,hx2_,aG⟩;obtain⟨aJ,aP,HX,aH,aI⟩:=Of aB aD hx2_ aC aG;have hk:piv.length<=R:=by obtain⟨c,_,h,_⟩:=aD;exact h.le
 obtain⟨pa,pc,rfl,_,p2_,_⟩:=aC.open;rw[RI]at aH aI ⊢;clear hem aB aD aC hx1_ hx2_ HC aG;have k1:(0:Int)<=(piv.length:Int):=ac;have k2:(piv.length:Int)<=(R:Int):=ac;have aO:=Aa (aJ.o.msl hk aE);go_wp2_with fail
 go_ret2;exact⟨piv,_,_,a',rfl,aP.o,aO.o,aH.o,HX.o,g,blk',cap',rfl,aJ.o,aI.o⟩
end Go.Proofs.YtehieobniamagaaGreat
