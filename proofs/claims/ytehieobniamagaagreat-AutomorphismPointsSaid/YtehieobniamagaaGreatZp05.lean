/- A drawn region that reckons one element, lays it in a slice of its own, appends it, and stores the new slice: one proof per operation. -/
import Derived.Test.YtehieobniamagaaGreatZp00
import Derived.Test.YtehieobniamagaaGreatZp03
import Derived.Test.YtehieobniamagaaGreatZp04
namespace Go.Proofs.YtehieobniamagaaGreat
set_option linter.unusedVariables false
set_option linter.unusedSimpArgs false
set_option maxRecDepth 100000
set_option maxHeartbeats 4000000
section
open Go.RowKit
structure Oz(w w':World)(base:Nat)(e:TypeId)(size:Nat)(v v':Value)(n:Nat)(xs news:List Value):Prop where
 own:w'.ownsRow base e size v' (n+1) (xs++news)
 gr:w.grownBy w' v.ownBlock
 at_:v'.ownBlock=v.ownBlock∨v'.ownBlock=some w.heap.size
 old:w.ownsRow base e size v n xs
section
variable {w w':World} {base:Nat} {e:TypeId} {size:Nat} {v v':Value} {n:Nat} {xs news:List Value}
theorem Oz.ex(h:Oz w w' base e size v v' n xs news){a:World}(hx:Ex a w)(hb:a.heap.size<=base):Ex a w':=Ex.grown hx h.old hb h.gr
theorem Oz.cell(h:Oz w w' base e size v v' n xs news){a:Addr}{u:Value}(hc:w.cell? a=some u)(aA:some a.block≠v.ownBlock):w'.cell? a=some u:=h.gr.cell hc aA
theorem Oz.frz(h:Oz w w' base e size v v' n xs news){a:Addr}{u:Value}(hc:w.cell? a=some u)(hf:w.frozen? a=false)(aA:some a.block≠v.ownBlock):w'.frozen? a=false:=by
 have aB:=World.block_lt_of_cell? _ _ hc;rw[<-hf];have h2:=h.gr.block a.block aB aA;unfold World.frozen?;rw[h2]
theorem Oz.row(h:Oz w w' base e size v v' n xs news){b2:Nat}{e2:TypeId}{s2:Nat}{v2:Value}{n2:Nat}{ys:List Value}(k:w.ownsRow b2 e2 s2 v2 n2 ys)(ha:AJ v2 v):
  w'.ownsRow b2 e2 s2 v2 n2 ys/\AJ v2 v':=by
 refine⟨k.kept h.gr ha,?_⟩;unfold AJ;rcases h2:v2.ownBlock with _|b
 .exact .inl rfl
 .exact zat
end
theorem IA{w:World}{B:Nat}{x:Value}{t:TypeId}(h:w.heap[B]?=some (.cells #[x] t)):Sl w (.slice (some ⟨B,0,none⟩) 1 1) 1 1 [x]:=
 ⟨rfl,some ⟨B,0,none⟩,1,rfl,Nat.le_refl _,by unfold maxLen;omega,fun _=>⟨B,0,rfl,fun j u hu=>by
  match j,hu with
  | 0,hu=>
   simp at hu;subst hu;rw[Nat.zero_add,cell_of_row w B 0 #[x] t (0,0) h];rfl
  | j+1,hu=>simp at hu⟩⟩
section
variable {P:Program} {Q:Exit->Act->World->Prop} {a0:Act}
def EL(P:Program)(Q:Exit->Act->World->Prop)(l:List Oper)(a0:Act)(pv:Nat->Value)(wr:World)(ib ia fa m i:Nat)(o:Oper):Prop:=
 ∀(L:Nat->Bool) (a:Act) (w:World),(∀k t o',L k=true->k<m->k≠ib->k≠ia->l[k]?=some o'->o'.dst=some t->a.tmps[t]?=some (pv k))->(∀t,(l.all fun o=>o.dst !=some t)=true->a.tmps[t]?=a0.tmps[t]?)->(∀e∈o.after,Region.binds .any e=true->L e.on=true)->
  ∀K:Act->World->Prop,
   if i=fa then(K (a.put o.dst (pv i)) w->o.wp P a w K Q)
   else if i=m∨i=ia then True
   else if i=ib then(Ex wr w->True)
   else Ex wr w->(∀w',Ex w w'->K (a.put o.dst (pv i)) w')->o.wp P a w K Q
def WX(l:List Oper)(ib ia fa m:Nat):Bool:=
 l.length==m+1&&decide (ib<m)&&decide (ia<m)&&decide (fa<m)&&ib !=ia&&ia !=fa&&ib !=fa&&(match l[m]? with|some om=>om.dst.isNone&&(om.after.any fun e=>e.on==ia&&Region.binds .any e)&&(om.after.any fun e=>e.on==fa&&Region.binds .any e)|none=>false) &&
 (match l[ia]? with|some oa=>oa.after.any fun e=>e.on==ib&&Region.binds .any e|none=>false) &&
 (List.range m).all fun k=>k==fa||k==ia||(List.range m).any fun k'=>decide (k<k')&&k' !=fa&&(match l[k']? with|some o=>o.after.any fun e=>e.on==k&&Region.binds .any e|none=>false)
structure AsJ(pv:Nat->Value)(wr:World)(ib ia fa m:Nat)(u:Value)(T:TypeId)(A Fin:Value->World->Prop)(L:Nat->Bool)(V:Nat->Value)(w:World):Prop where
 vals:∀k,L k=true->k<m->k≠ib->k≠ia->V k=pv k
 ex:L ia=false->Ex wr w
 vb:L ib=true->∃B,V ib= .slice (some ⟨B,0,none⟩) 1 1/\(L ia=false->w.heap[B]?=some (.cells #[u] T))
 va:L ia=true->L m=false->A (V ia) w
 fin:L m=true->L ia=true/\Fin (V ia) w
theorem FG{l:Array Edge}{k:Nat}(h:(l.any fun e=>e.on==k&&Region.binds .any e)=true):∃e∈l,e.on=k/\Region.binds .any e=true:=by
 rw[Array.any_eq_true']at h;obtain⟨e,he,h⟩:=h;rw[Bool.and_eq_true,beq_iff_eq]at h;exact⟨e,he,h.1,h.2⟩
theorem TU{w w':World}{B:Nat}{o:Obj}(h:Ex w w')(hb:w.heap[B]?=some o):w'.heap[B]?=some o:=by
 have aA:B<w.heap.size:=(Array.getElem?_eq_some_iff.1 hb).1;rw[h.block B aA];exact hb
theorem DG{id:Nat}{l:List Oper}{w:World}(pv:Nat->Value)(ib ia fa m:Nat)(u:Value)(T:TypeId)(A Fin:Value->World->Prop)(hm:P.follows .mixedOrders=true)(hB:LQ a0.tmps.size l 0 []=true)(hl:WX l ib ia fa m=true)
  (hs:AC (EL P Q l a0 pv w ib ia fa m) l 0)
  (hb:∀(o:Oper) (a:Act) (w1:World) (K:Act->World->Prop),l[ib]?=some o->Ex w w1->(∀k t o',(o.after.any fun e=>e.on==k&&Region.binds .any e)=true->k<m->k≠ib->k≠ia->l[k]?=some o'->o'.dst=some t->a.tmps[t]?=some (pv k))->K (a.put o.dst (.slice (some ⟨w1.heap.size,0,none⟩) 1 1)) (w1.alloc (.cells #[u] T))->o.wp P a w1 K Q)
  (ha:∀(o ob:Oper) (a:Act) (w1:World) (B:Nat) (K:Act->World->Prop),l[ia]?=some o->l[ib]?=some ob->Ex w w1->(∀t,ob.dst=some t->a.tmps[t]?=some (.slice (some ⟨B,0,none⟩) 1 1))->w1.heap[B]?=some (.cells #[u] T)->(∀k t o',(o.after.any fun e=>e.on==k&&Region.binds .any e)=true->k<m->k≠ib->k≠ia->l[k]?=some o'->o'.dst=some t->a.tmps[t]?=some (pv k))->(∀v w2,A v w2->K (a.put o.dst v) w2)->o.wp P a w1 K Q)
  (Bf:∀(o oa of:Oper) (a:Act) (w1:World) (v:Value) (K:Act->World->Prop),l[m]?=some o->l[ia]?=some oa->l[fa]?=some of->A v w1->(∀t,oa.dst=some t->a.tmps[t]?=some v)->(∀t,of.dst=some t->a.tmps[t]?=some (pv fa))->(∀w2,Fin v w2->K (a.put o.dst undef) w2)->o.wp P a w1 K Q)
  (aY:Nat->Value->Nat->Value) (bN:∀B v,(List.range m).map (aY B v)=(List.range m).map (Ax (Ax pv ib (.slice (some ⟨B,0,none⟩) 1 1)) ia v))
  (he:∀(B:Nat) (v:Value) (w1:World),Fin v w1->Q .normal (BU l (aY B v) 0 a0) w1):(Code.region id l.toArray true).wp P Q a0 w:=by
 unfold WX at hl;simp only[Bool.and_eq_true,beq_iff_eq,decide_eq_true_eq,bne_iff_ne,ne_eq]at hl;obtain⟨⟨⟨⟨⟨⟨⟨⟨⟨hlen,hibm⟩,hiam⟩,hfam⟩,hba⟩,haf⟩,hbf⟩,aL⟩,bH⟩,aJ⟩:=hl;obtain⟨om,aB⟩:∃om,l[m]?=some om:=by
  cases h:l[m]? with
  | none=>rw[h]at aL;cases aL
  | some om=>exact⟨om,rfl⟩
 rw[aB]at aL;simp only[Bool.and_eq_true]at aL;obtain⟨⟨aF,bS⟩,bR⟩:=aL;have bT:om.dst=none:=by cases hd:om.dst with|none=>rfl|some d=>rw[hd]at aF;cases aF
 obtain⟨ea,aT,aS,aR⟩:=FG bS;obtain⟨ef,aQ,aP,aO⟩:=FG bR;obtain⟨oa,aC⟩:∃oa,l[ia]?=some oa:=⟨_,List.getElem?_eq_getElem ac⟩;obtain⟨ob,aE⟩:∃ob,l[ib]?=some ob:=⟨_,List.getElem?_eq_getElem ac⟩;obtain⟨of,aM⟩:∃of,l[fa]?=some of:=⟨_,List.getElem?_eq_getElem ac⟩;rw[aC]at bH;obtain⟨eb,bD,bC,bB⟩:=FG bH;have bF:∀(L:Nat->Bool),(∀(k:Nat) (o':Oper),L k=true->l.toArray[k]?=some o'->∀e∈o'.after,Region.binds .any e=true->L e.on=true)->L ia=true->∀d k,m-k<=d->k<m->k≠fa->L k=true:=fun L aU aG d=>by
  induction d with
  | zero=>intro k h1 h2;omega
  | succ d ih=>
   intro k h1 h2 h3;by_cases e:k=ia
   .rw[e];exact aG
   .have:=List.all_eq_true.1 aJ k (List.mem_range.2 h2);simp only[Bool.or_eq_true,beq_iff_eq]at this;rcases this with (h|h)|h
    .exact absurd h h3
    .exact absurd h e
    .obtain⟨k',bO,h⟩:=List.any_eq_true.1 h;simp only[Bool.and_eq_true,decide_eq_true_eq,bne_iff_ne,ne_eq]at h;obtain⟨⟨h4,h5⟩,h6⟩:=h;have aZ:=List.mem_range.1 bO;have bU:=ih k' ac aZ h5;obtain⟨o',aI⟩:∃o',l[k']?=some o':=⟨_,List.getElem?_eq_getElem ac⟩;rw[aI]at h6;obtain⟨e1,g1,g2,g3⟩:=FG h6;have:=aU k' o' bU (by simpa using aI) e1 g1 g3;rw[g2]at this;exact this
 refine CC (AsJ pv w ib ia fa m u T A Fin) hm hB ⟨fun k h=>bf,fun _=>(Ex.refl w).drew,fun h=>bf,fun h=>bf,fun h=>bf⟩ ?_ ?_
 .have bK:∀(l':List Oper) (k0:Nat),(∀i o,l'[i]?=some o->l[k0+i]?=some o)->AC (EL P Q l a0 pv w ib ia fa m) l' k0->AC (R8 P Q (AsJ pv w ib ia fa m u T A Fin) l.toArray a0) l' k0:=fun l'=>by
   induction l' with
   | nil=>intro _ _ _;trivial
   | cons o l' ih=>
    intro k0 aK h;refine⟨?_,ih (k0+1) (fun i o' hi=>by rw[show k0+1+i=k0+(i+1) from ac];exact aK (i+1) o' hi) h.2⟩;intro L V a w' hf hj hi hd aU K hK;have aA:l[k0]?=some o:=by have:=aK 0 o rfl;simpa using this
    have hk0:k0<l.length:=(List.getElem?_eq_some_iff.1 aA).1;have bA:∀k t o',L k=true->k<m->k≠ib->k≠ia->l[k]?=some o'->o'.dst=some t->a.tmps[t]?=some (pv k):=fun k t o' hk h1 h2 h3 aI bE=>by
     rw[<-hj.vals k hk h1 h2 h3];exact hf.in_ k t hk aI bE
    have aD:∀k t o',(o.after.any fun e=>e.on==k&&Region.binds .any e)=true->k<m->k≠ib->k≠ia->l[k]?=some o'->o'.dst=some t->a.tmps[t]?=some (pv k):=fun k t o' hk h1 h2 h3 aI bE=>by
     obtain⟨e,g1,g2,g3⟩:=FG hk;exact bA k t o' (by have:=hd e g1 g3;rw[g2]at this;exact this) h1 h2 h3 aI bE
    have aW:k0≠fa->k0≠m->L ia=false:=fun h1 h2=>Av fun hb=>by
     have:=bF L aU hb _ k0 (Nat.le_refl _) ac h1;rw[hi]at this;cases this
    have aV:L m=false:=by
     by_cases e:k0=m
     .rw[<-e];exact hi
     .refine Av fun hb=>?_;by_cases e2:k0=fa
      .have:=aU m om hb (by simpa using aB) ef aQ aO;rw[aP,<-e2,hi]at this;cases this
      .have:=aU m om hb (by simpa using aB) ea aT aR;rw[aS,aW e2 e]at this;cases this
    have h1:=h.1 L a w' bA (fun t ht=>hf.out_ t ht) hd K;by_cases e1:k0=fa
    .rw[if_pos e1]at h1;refine h1 (hK (pv k0) _ ⟨fun k hk a1 a2 a3=>?_,fun hh=>?_,fun hh=>?_,fun h2 h3=>?_,fun h2=>?_⟩)
     .by_cases e2:k=k0
      .rw[e2,Ab]
      .rw[Ae _ _ e2]at hk ⊢;exact hj.vals k hk a1 a2 a3
     .rw[Ae _ _ ac]at hh;exact hj.ex hh
     .rw[Ae _ _ ac]at hh ⊢;obtain⟨B,g1,g2⟩:=hj.vb hh;exact⟨B,g1,fun g3=>g2 (by rw[Ae _ _ ac]at g3;exact g3)⟩
     .rw[Ae _ _ ac]at h2 h3 ⊢;exact hj.va h2 h3
     .rw[Ae _ _ ac,aV]at h2;cases h2
    .rw[if_neg e1]at h1;by_cases e2:k0=m
     .rw[e2,aB]at aA;injection aA with aA;have aG:L ia=true:=by
       have:=hd ea (by rw[<-aA];exact aT) aR;rw[aS]at this;exact this
      have bQ:L fa=true:=by
       have:=hd ef (by rw[<-aA];exact aQ) aO;rw[aP]at this;exact this
      rw[<-aA];refine Bf om oa of a w' (V ia) K aB aC aM (hj.va aG aV) (fun t ht=>hf.in_ ia t aG aC ht) (fun t ht=>bA fa t of bQ ac ac ac aM ht) fun w2 bL=>?_;rw[aA];refine hK undef _ ⟨fun k hk a1 a2 a3=>?_,fun hh=>?_,fun hh=>?_,fun h2 h3=>?_,fun h2=>?_⟩
      .rw[Ae _ _ ac]at hk ⊢;exact hj.vals k hk a1 a2 a3
      .rw[Ae _ _ ac,aG]at hh;cases hh
      .rw[Ae _ _ ac]at hh ⊢;obtain⟨B,g1,g2⟩:=hj.vb hh;exact⟨B,g1,fun g3=>by rw[Ae _ _ ac,aG]at g3;cases g3⟩
      .rw[e2,Ab]at h3;cases h3
      .rw[Ae _ _ ac,Ae _ _ ac];exact⟨aG,bL⟩
     .have aX:=aW e1 e2;have aN:=hj.ex aX;by_cases e3:k0=ia
      .rw[e3,aC]at aA;injection aA with aA;have bJ:L ib=true:=by
        have:=hd eb (by rw[<-aA];exact bD) bB;rw[bC]at this;exact this
       obtain⟨B,g1,g2⟩:=hj.vb bJ;rw[<-aA];rw[<-aA]at aD;refine ha oa ob a w' B K aC aE aN (fun t ht=>by rw[<-g1];exact hf.in_ ib t bJ aE ht) (g2 aX) aD fun v w2 hA=>?_;rw[aA];refine hK v _ ⟨fun k hk a1 a2 a3=>?_,fun hh=>?_,fun hh=>?_,fun h2 h3=>?_,fun h2=>?_⟩
       .rw[Ae _ _ ac]at hk ⊢;exact hj.vals k hk a1 a2 a3
       .rw[e3,Ab]at hh;cases hh
       .rw[Ae _ _ ac];exact⟨B,g1,fun g3=>by rw[e3,Ab]at g3;cases g3⟩
       .rw[e3,Ab];exact hA
       .rw[Ae _ _ ac,aV]at h2;cases h2
      .by_cases e4:k0=ib
       .rw[e4,aE]at aA;injection aA with aA;rw[<-aA]at aD;rw[<-aA];refine hb ob a w' K aE aN aD ?_;rw[aA];refine hK (.slice (some ⟨w'.heap.size,0,none⟩) 1 1) _ ⟨fun k hk a1 a2 a3=>?_,fun hh=>?_,fun hh=>?_,fun h2 h3=>?_,fun h2=>?_⟩
        .rw[Ae _ _ ac]at hk ⊢;exact hj.vals k hk a1 a2 a3
        .exact aN.alloc _
        .rw[e4,Ab];exact⟨_,rfl,fun _=>by show(w'.heap.push _)[w'.heap.size]?=_;rw[Array.getElem?_push_size]⟩
        .rw[Ae _ _ ac,aX]at h2;cases h2
        .rw[Ae _ _ ac,aV]at h2;cases h2
       .rw[if_neg ac,if_neg e4]at h1;refine h1 aN fun w2 bG=>hK (pv k0) _ ⟨fun k hk a1 a2 a3=>?_,fun hh=>?_,fun hh=>?_,fun h2 h3=>?_,fun h2=>?_⟩
        .by_cases e2:k=k0
         .rw[e2,Ab]
         .rw[Ae _ _ e2]at hk ⊢;exact hj.vals k hk a1 a2 a3
        .exact aN.trans bG
        .rw[Ae _ _ ac]at hh ⊢;obtain⟨B,g1,g2⟩:=hj.vb hh;exact⟨B,g1,fun g3=>TU bG (g2 aX)⟩
        .rw[Ae _ _ ac,aX]at h2;cases h2
        .rw[Ae _ _ ac,aV]at h2;cases h2
  exact bK l 0 (fun i o h=>by rw[Nat.zero_add];exact h) hs
 .intro L V w' aH hj;obtain⟨aG,hF⟩:=hj.fin (aH m ac);obtain⟨B,bV,-⟩:=hj.vb (aH ib ac);have bM:∀i,i<m->aY B (V ia) i=Ax (Ax pv ib (.slice (some ⟨B,0,none⟩) 1 1)) ia (V ia) i:=fun i hi=>by
   have:=congrArg (fun L=>L[i]?) (bN B (V ia));simpa[hi]using this
  have hp:BU l V 0 a0=BU l (aY B (V ia)) 0 a0:=ES l 0 V _ a0 fun i o hi hd=>by
   rw[Nat.zero_add];have bP:i<l.length:=(List.getElem?_eq_some_iff.1 hi).1;have bI:i<m:=by
    refine Nat.lt_of_le_of_ne ac fun e=>hd ?_;rw[e,aB]at hi;injection hi with hi;rw[<-hi];exact bT
   rw[bM i bI];by_cases e1:i=ia
   .rw[e1,Ab]
   .rw[Ae _ _ e1];by_cases e2:i=ib
    .rw[e2,Ab];exact bV
    .rw[Ae _ _ e2];by_cases e3:i=m
     .omega
     .exact hj.vals i (aH i bP) bI e2 e1
  rw[hp];exact he B (V ia) w' hF
end
end
section
open Go.RowKit
def F5(p m:Nat)(ml:List Int)(z:Nat):Nat:=((List.range (p^m)).find? fun y=>decide (1<=y)&&Ar p m (lw ml) z y==1).getD 0
theorem Mh{p m:Nat}{ml:List Int}(hp:2<=p)(hm:1<=m)(hF:Kd p m (lw ml)){z y:Nat}(hz:z<p^m)(aA:1<=z)(hy:y<p^m)(h:Ar p m (lw ml) z y=1):F5 p m ml z=y:=by
 have aB:1<=y:=by
  rcases Nat.eq_zero_or_pos y with e|e
  .subst e;rw[Bn,BL ac]at h;omega
  .exact e
 unfold F5;rcases hf:(List.range (p^m)).find? (fun y=>decide (1<=y)&&Ar p m (lw ml) z y==1) with _|i
 .exfalso;have:=List.find?_eq_none.1 hf y (List.mem_range.2 hy);simp[aB,h]at this
 .have h1:=List.find?_some hf;have h2:=List.mem_range.1 (List.mem_of_find?_eq_some hf);simp at h1;exact hF.cancel hp hm aA hz h2 hy (by rw[Option.getD_some,Bn i z,h1.2,Bn y z,h])
section
variable {b p m x0:Nat} {ml:List Int}
theorem AR.isF{w:World}(hg:AR w b p m ml x0)(h1:1<=x0)(h2:x0<p^m):Kd p m (lw ml):=⟨x0,h1,h2,hg.gen⟩
theorem za1{P:Prop}(h:P:=by
 go_enter Tryz.func106,Tryz.ntmps106
 go_wp2_with fail
 refine aF.o.mono ?_;rintro e w1⟨rfl,n0,rfl⟩;go_wp2_with fail
 refine(aE.o n0).mono ?_;rintro e w1⟨rfl,n1,rfl⟩;go_wp2_with fail
 go_ret;exact⟨Af (by rw[HZ.o];rfl),_,rfl⟩):P:=h
theorem eh{P:Prop}(h:P:=by rw[<-hr];exact Nat.mod_lt _ ac):P:=h
theorem Eg(w:World)(hg:AR w b p m ml x0)(x y:Int):
  Calls Tryz.prog 106 #[.pointer (some ⟨b,0,none⟩),.int .i64 x,.int .i64 y] w (Qt w (.int .i64 (Ar p m (lw ml) (AA (p^m) x) (AA (p^m) y):Nat))):=by
 have HI:=Aa (fun n x=>Gr (w.drewN n) (hg.drewN n) x);have aF:=Aa (Gr w hg x);have p2:=hg.sh.p2;have m1:=hg.sh.m1;have hq:=hg.sh.q;have aG:=BK p2 m1;have c3:=hg.c3;obtain⟨ev,c4,he⟩:=hg.c4;obtain⟨lv,f,c5,hl,hf⟩:=hg.c5;obtain⟨ea,ec,rfl,e1,e2,e3⟩:=he.open;obtain⟨la,lc,rfl,l1,l2,l3⟩:=hl.open;rw[Aj]at *;obtain⟨eb,eo,rfl,e4⟩:=e3 ac;obtain⟨lb,lo,rfl,l4⟩:=l3 ac;have hz:AA (p^m) x<p^m:=Cx ac x;have ht:AA (p^m) y<p^m:=Cx ac y;have aE:=Aa (fun n=>HI.o n y);clear HI e3 l3 he hl;unfold maxLen at e2 l2;generalize AA (p^m) x=z at *;generalize AA (p^m) y=t at *;by_cases h0:z=0
 .subst h0;have HZ:=Aa (BL (m:=m) (low:=lw ml) (show 1<=p by omega) t);clear hg c3 c4 c5 hz ht hq aG hf e4 l4 e1 e2 l1 l2;exact za1
 .have z1:1<=z:=by omega
  have hzb:((z:Int)==0)=false:=al;by_cases h1:t=0
  .subst h1;have HZ:=Aa (show Ar p m (lw ml) z 0=0 by rw[Bn];exact BL (show 1<=p by omega) z);clear hg c3 c4 c5 hz ht hq aG hf e4 l4 e1 e2 l1 l2 h0;exact za1
  .have t1:1<=t:=by omega
   have htb:((t:Int)==0)=false:=al;obtain⟨i,hi,aA⟩:=hg.gen.all p2 m1 z1 hz;obtain⟨j,hj,aB⟩:=hg.gen.all p2 m1 t1 ht;have aJ:=l4 z (f z) (AH hz f);have aK:=l4 t (f t) (AH ht f);have aC:=hf i hi;have aD:=hf j hj;rw[aA]at aC;rw[aB]at aD;rw[aC]at aJ;rw[aD]at aK;obtain⟨r,hr⟩:=nA ((i+j)%(p^m-1));have aI:r<p^m-1:=eh;have aL:=e4 r _ (AH aI _);have aH:Jl p m ml x0 r=((Ar p m (lw ml) z t:Nat):Int):=by
    unfold Jl;rw[<-hr,hg.gen.mod p2 m1,Cq p2 m1,aA,aB]
   rw[aH]at aL;have aM:Hia (((i:Int)+j).tmod (((p^m:Nat):Int)-1)=(r:Int)):=Aa (by
    rw[Int.tmod_eq_emod_of_nonneg ac,<-hr,Int.natCast_emod]
    congr 1
    omega)
   generalize Ar p m (lw ml) z t=kz at *;generalize p^m=q at *;have C3:=Aa c3;have C4:=Aa c4;have C5:=Aa c5;clear hg hf e4 l4 aC aD aA aB hr aH h0 h1 c3 c4 c5;go_enter Tryz.func106,Tryz.ntmps106
   go_wp2_with fail
   refine aF.o.mono ?_;rintro e w1⟨rfl,n0,rfl⟩;go_wp2_with fail
   refine(aE.o n0).mono ?_;rintro e w1⟨rfl,n1,rfl⟩;have c3:=C3.o;have c4:=C4.o;have c5:=C5.o;have i1:IntKind.i64.wrap ((i:Int)+j)=(i:Int)+j:=IntWalk.i64_in _ ac;have i2:IntKind.i64.wrap ((q:Int)-1)=(q:Int)-1:=IntWalk.i64_in _ ac;have i3:=aM.o;have i4:¬q=1:=c9;have i5:¬((q:Int)-1=0):=ac;go_wp2_with fail
   go_quiet (fail)
   go_wp2_with fail
   go_ret;exact⟨rfl,_,World.drewN_drewN _ _ _⟩
def Pk(p m:Nat)(ml:List Int)(z:Nat):Value:=if z=0 then .tuple #[.int .i64 0,.int .i64 7] else .tuple #[.int .i64 (F5 p m ml z:Nat),.int .i64 0]
theorem Q9(w:World)(hg:AR w b p m ml x0)(aG:1<=x0)(aF:x0<p^m)(x:Int):
  Calls Tryz.prog 250 #[.pointer (some ⟨b,0,none⟩),.int .i64 x] w (Qt w (Pk p m ml (AA (p^m) x))):=by
 have aE:=Aa (Gr w hg x);have hF:=hg.isF aG aF;have p2:=hg.sh.p2;have m1:=hg.sh.m1;have hq:=hg.sh.q;have aI:=BK p2 m1;have c3:=hg.c3;obtain⟨ev,c4,he⟩:=hg.c4;obtain⟨lv,f,c5,hl,hf⟩:=hg.c5;obtain⟨ea,ec,rfl,e1,e2,e3⟩:=he.open;obtain⟨la,lc,rfl,l1,l2,l3⟩:=hl.open;rw[Aj]at *;obtain⟨eb,eo,rfl,e4⟩:=e3 ac;obtain⟨lb,lo,rfl,l4⟩:=l3 ac;have hz:AA (p^m) x<p^m:=Cx ac x;clear e3 l3 he hl;unfold maxLen at e2 l2;generalize AA (p^m) x=z at *;by_cases h0:z=0
 .subst h0;have HZ:=Aa (show Pk p m ml 0= .tuple #[.int .i64 0,.int .i64 7] from rfl);clear hg c3 c4 c5 hz hq aI hf e4 l4 e1 e2 l1 l2;go_enter Tryz.func250,Tryz.ntmps250
  go_wp2_with fail
  refine aE.o.mono ?_;rintro e w1⟨rfl,n0,rfl⟩;go_wp2_with fail
  go_ret2;exact⟨by rw[HZ.o];rfl,_,rfl⟩
 .have z1:1<=z:=by omega
  have hzb:((z:Int)==0)=false:=al;obtain⟨i,hi,aB⟩:=hg.gen.all p2 m1 z1 hz;have aJ:=l4 z (f z) (AH hz f);have aC:=hf i hi;rw[aB]at aC;rw[aC]at aJ;obtain⟨r,hr⟩:=nA ((p^m-1-i)%(p^m-1));have aH:r<p^m-1:=eh;have aK:=e4 r _ (AH aH _);have aA:=hg.gen.inv p2 m1 hi;rw[hr,aB]at aA;have hk:=Mh p2 m1 hF hz z1 (CZ p2 m1 _ _) aA;have aD:Jl p m ml x0 r=((F5 p m ml z:Nat):Int):=by unfold Jl;rw[hk]
  rw[aD]at aK;have HZ:=Aa (show Pk p m ml z= .tuple #[.int .i64 (F5 p m ml z:Nat),.int .i64 0] by unfold Pk;rw[if_neg h0]);have aL:Hia ((((p^m:Nat):Int)-1-(i:Int)).tmod (((p^m:Nat):Int)-1)=(r:Int)):=Aa (by
   rw[Int.tmod_eq_emod_of_nonneg ac,<-hr,Int.natCast_emod]
   congr 1
   .omega
   .omega)
  generalize F5 p m ml z=kz at *;generalize p^m=q at *;have C3:=Aa c3;have C4:=Aa c4;have C5:=Aa c5;clear hg hF hf e4 l4 aC aB hr aD h0 c3 c4 c5 aA hk;go_enter Tryz.func250,Tryz.ntmps250
  go_wp2_with fail
  refine aE.o.mono ?_;rintro e w1⟨rfl,n0,rfl⟩;have c3:=C3.o;have c4:=C4.o;have c5:=C5.o;have i1:IntKind.i64.wrap ((q:Int)-1-(i:Int))=(q:Int)-1-i:=IntWalk.i64_in _ ac;have i2:IntKind.i64.wrap ((q:Int)-1)=(q:Int)-1:=IntWalk.i64_in _ ac;have i3:=aL.o;have i4:¬q=1:=c9;have i5:¬((q:Int)-1=0):=ac;go_wp2_with fail
  go_quiet (fail)
  go_wp2_with fail
  go_ret2;exact⟨by rw[HZ.o];rfl,_,World.drewN_drewN _ _ _⟩
theorem Qs{p m:Nat}{ml:List Int}(hq:1<=p^m)(z:Nat):F5 p m ml z<p^m:=by
 unfold F5;rcases hf:(List.range (p^m)).find? (fun y=>decide (1<=y)&&Ar p m (lw ml) z y==1) with _|i
 .show 0<p^m;omega
 .exact List.mem_range.1 (List.mem_of_find?_eq_some hf)
def BG(p m:Nat)(ml:List Int):List Int->List Int->Nat->Nat
 | x :: l,y :: k,s=>BG p m ml l k (A9 p m s (Ar p m (lw ml) (AA (p^m) x) (AA (p^m) y)))
 | _,_,s=>s
theorem FP{p m:Nat}{ml:List Int}:∀(l k:List Int) (i:Nat) (s:Nat) (x y:Int),l[i]?=some x->k[i]?=some y->
  BG p m ml (l.take (i+1)) (k.take (i+1)) s=A9 p m (BG p m ml (l.take i) (k.take i) s) (Ar p m (lw ml) (AA (p^m) x) (AA (p^m) y))
 | [],k,i,s,x,y,h,_=>by simp at h
 | a :: l, [],i,s,x,y,_,h=>by simp at h
 | a :: l,c :: k,0,s,x,y,h,h'=>by
  simp at h h';subst h;subst h';cases l <;> cases k <;> simp[BG]
 | a :: l,c :: k,i+1,s,x,y,h,h'=>by
  simp only[List.take_succ_cons,BG];exact FP l k i _ x y (by simpa using h) (by simpa using h')
theorem IM{p m:Nat}{ml:List Int}(hp:1<=p):∀(l k:List Int) (s:Nat),s<p^m->BG p m ml l k s<p^m
 | x :: l,y :: k,s,_=>IM hp l k _ (Mi hp _ _)
 | [],_,s,h=>by simpa[BG]using h
 | _ :: _, [],s,h=>by simpa[BG]using h
theorem Hm{p m:Nat}{ml:List Int}:∀(l k:List Int) (i s:Nat),min l.length k.length<=i->BG p m ml (l.take i) (k.take i) s=BG p m ml l k s
 | [],k,i,s,_=>by simp[BG]
 | a :: l, [],i,s,_=>by cases i <;> simp[BG]
 | a :: l,c :: k,0,s,h=>by simp at h
 | a :: l,c :: k,i+1,s,h=>by
  simp only[List.take_succ_cons,BG];exact Hm l k i _ (by simp at h;omega)
end
end
section
open Go.RowKit
theorem XJ{q p:Int}(hp:1<=p):256/p<q↔256<q*p:=by
 constructor
 .intro h;exact Int.lt_mul_of_ediv_lt ac h
 .intro h;exact Int.ediv_lt_of_lt_mul ac h
theorem CJ(p m:Int)(mv:Value)(w:World):
  Calls Tryz.prog 14 #[.agg #[.int .i64 p,.int .i64 m,mv]] w fun r w'=>r= .returned (.int .i64 (CV p m))/\Ex w w':=by
 obtain⟨xb,aA⟩:=nA w.heap.size;have d0:(w.alloc (.cells #[.int .i64 p,.int .i64 m,mv] 24)).cell? ⟨xb,0,none⟩=some (.int .i64 p):=by rw[<-aA];simp
 have d1:(w.alloc (.cells #[.int .i64 p,.int .i64 m,mv] 24)).cell? ⟨xb,1,none⟩=some (.int .i64 m):=by rw[<-aA];simp
 have e0:Ex w (w.alloc (.cells #[.int .i64 p,.int .i64 m,mv] 24)):=(Ex.refl _).alloc _;have D0:=Aa d0;have D1:=Aa d1;clear d0 d1;by_cases h:2<=p/\1<=m/\m<=8
 .obtain⟨h1,h3,h4⟩:=h;have HO:=Aa (show CV p m=if p^m.toNat<=256 then p^m.toNat else 0 by unfold CV;by_cases h:p^m.toNat<=256 <;> simp[h,h1,h3,h4]);go_enter Tryz.func14,Tryz.ntmps14
  have d0:=D0.o;have d1:=D1.o
  go_wp2
  clear aA D0 D1;generalize w.alloc (.cells #[.int .i64 p,.int .i64 m,mv] 24)=w1 at *
  go_loop [3,4] (fun q' i'=>∃i:Nat,i<=m.toNat/\i'= .int .i64 i/\q'= .int .i64 (p^i)/\1<=p^i/\p^i<=256) (fun _ i'=>m.toNat-(intOf i').toNat)
  case atStart=>exact⟨0,ac,rfl,ag,ag,ag⟩
  case round=>
   obtain⟨i,hi,rfl,rfl,q1,q2⟩:=hrel;have HS:=Aa (Int.pow_succ p i);have HM:=Aa (show i<m.toNat->p^(i+1)<=p^m.toNat from fun h=>Hf h1 h);have HG:=Aa (XJ (q:=p^i) (show 1<=p by omega));have q4:1<=p^i*p:=by
    have:=Int.mul_pos (show 0<p^i by omega) (show 0<p by omega);omega
   have e1:=Int.ediv_nonneg (show(0:Int)<=256 by omega) (show 0<=p by omega);have e2:256/p<=256:=Int.ediv_le_self _ ac;by_cases hlt:(i:Int)<m
   .by_cases hq:256<p^i*p
    .have HB:=HM.o ac;rw[HS.o]at HB;have HN:=Aa (show ¬p^m.toNat<=256 by omega);have hg:=HG.o.2 hq;clear HB HM HG;generalize p^i=y at *
     go_wp2
     go_ret;exact⟨Af (by rw[HO.o,if_neg (by have:=HN.o;omega)]),e0⟩
    .have HE:=Aa (show p^(i+1)=p^i*p from HS.o);have hg:¬256/p<p^i:=fun h=>hq (HG.o.1 h);have hg':p^i<=256/p:=by omega
     clear HM HS HG hg;exact zba
   .have aB:i=m.toNat:=by omega
    have HN:=Aa (show p^m.toNat=p^i by rw[aB]);clear HM HS HG;generalize p^i=y at *
    go_wp2
    go_ret;exact⟨Af (by rw[HO.o,HN.o,if_pos q2]),e0⟩
 .have HO:=Aa (show CV p m=0 by
   unfold CV;rw[if_neg];rintro⟨h1,h2,h3,h4⟩;exact h ⟨h1,h2,h3⟩)
  have c:p<2∨(2<=p/\m<1)∨(2<=p/\1<=m/\8<m):=ac;clear h;rcases c with c|⟨c1,c2⟩|⟨c1,c2,c3⟩
  all_goals
   go_enter Tryz.func14,Tryz.ntmps14
   have d0:=D0.o;have d1:=D1.o
   go_wp2
   go_ret;exact⟨Af HO.o.symm,e0⟩
theorem Vu{n:Nat}(hn:2<=n):He n=true↔∀d,2<=d->d<n->n%d≠0:=by
 unfold He;rw[decide_eq_true_iff];exact⟨fun h d a b=>h.2 d b a,fun h=>⟨hn,fun d a b=>h d b a⟩⟩
theorem OT(n:Nat)(w:World)(h1:2<=n)(h2:n<=256):
  Calls Tryz.prog 118 #[.int .i64 n] w fun r w'=>r= .returned (.bool (He n))/\w=w':=by
 have HI:=Aa (Vu h1);go_enter Tryz.func118,Tryz.ntmps118
 go_wp2
 go_loop [3] (fun d'=>∃d:Nat,2<=d/\d<=n/\d'= .int .i64 d/\Hia (∀c,2<=c->c<d->n%c≠0)) (fun d'=>n-(intOf d').toNat)
 case atStart=>exact⟨2,ac,ac,rfl,Aa (fun c a b=>ac)⟩
 case round=>
  obtain⟨d,d1,d2,rfl,aA⟩:=hrel;by_cases hlt:d<n
  .by_cases hd:n%d=0
   .have aB:((n:Int)%(d:Int)==0)=true:=by simp;omega
    have HR:=Aa (show He n=false by
     rw[<-Bool.not_eq_true];exact fun h=>HI.o.1 h d d1 hlt hd)
    clear hd
    go_wp2
    go_ret;exact⟨Ao HR.o.symm,rfl⟩
   .have aB:((n:Int)%(d:Int)==0)=false:=by simp;omega
    have HA:=Aa (show ∀c,2<=c->c<d+1->n%c≠0 from fun c a b=>by
     by_cases e:c=d
     .subst e;exact hd
     .exact aA.o c a ac)
    clear hd
    go_wp2
    go_round
    case rel=>exact⟨d+1,ac,ac,by go_num,HA⟩
    case measure=>simp[intOf];omega
  .have HR:=Aa (HI.o.2 fun c a b=>aA.o c a ac)
   go_wp2
   go_ret;exact⟨Ao HR.o.symm,rfl⟩
theorem Ib(x p m:Nat)(w:World)(hx:x<=65536)(hp:1<=p)(hp':p<=256)(hm:m<=256):
  Calls Tryz.prog 171 #[.int .i64 x,.int .i64 p,.int .i64 m] w fun r w'=>∃v,r= .returned v/\(∃g,v= .slice (some ⟨g,0,none⟩) m m/\w.heap.size<=g/\AG w' w.heap.size 3 g m (iv (AS p m x)))/\Ex w w':=by
 go_enter Tryz.func171,Tryz.ntmps171
 go_wp2_with (at_make;refine Ap _ rfl _ _ 22 rfl 3 (.int .i64 0) 8 Tryz.underlying22 Aw rfl _ m rfl rfl rfl ac ai ?_)
 intro w1 aA aD;obtain⟨g,hg⟩:=nA w.heap.size;have aB:AG w1 g 3 g m (iv fun j=>if j<0 then AS p m x j else 0):=by
  rw[hg]at aA;exact aA.congr fun j _=>by simp[iv]
 have HG:=Aa hg;simp only[hg];clear aA hg;go_wp2_with fail
 go_loopw [0,8] (fun x' k' wr=>∃k:Nat,k<=m/\k'= .int .i64 k/\x'= .int .i64 ((x/p^k:Nat):Int)/\AG wr g 3 g m (iv fun j=>if j<k then AS p m x j else 0)/\Ex w wr) (fun _ k' _=>m-(intOf k').toNat)
 case atStart=>exact⟨0,ac,rfl,ag,aB,aD⟩
 case round=>
  clear aB aD;obtain⟨k,hk,rfl,rfl,aA,aD⟩:=hrel;have hxk:x/p^k<=65536:=Nat.le_trans (Nat.div_le_self _ _) hx;have HS:=Aa (show x/p^(k+1)=x/p^k/p by rw[Nat.pow_succ,Nat.div_div_eq_div_mul]);have HD:=Aa (show k<m->AS p m x k=((x/p^k%p:Nat):Int) from fun h=>by unfold AS;rw[if_pos h]);generalize x/p^k=y at *;by_cases hlt:k<m
  .exact zag
  .obtain rfl:k=m:=by omega
   have aC:AG wr g 3 g k (iv (AS p k x)):=aA.icongr fun j hj=>by rw[if_pos hj]
   have HO:=Aa aC;clear aA aC HD HS;go_wp2_with fail
   go_ret;exact⟨_,rfl,⟨g,rfl,by rw[HG.o];exact Nat.le_refl _,by rw[HG.o];exact HO.o⟩,aD⟩
end
section
open Go.RowKit
theorem AO(w:World)(p m:Int)(mv:Value):(w.alloc (.cells #[.int .i64 p,.int .i64 m,mv] 24)).cell? ⟨w.heap.size,0,none⟩=some (.int .i64 p)/\
  (w.alloc (.cells #[.int .i64 p,.int .i64 m,mv] 24)).cell? ⟨w.heap.size,1,none⟩=some (.int .i64 m)/\
  (w.alloc (.cells #[.int .i64 p,.int .i64 m,mv] 24)).cell? ⟨w.heap.size,2,none⟩=some mv/\Ex w (w.alloc (.cells #[.int .i64 p,.int .i64 m,mv] 24))/\
  (w.alloc (.cells #[.int .i64 p,.int .i64 m,mv] 24)).heap.size=w.heap.size+1:=
 ⟨ag,ag,ag,(Ex.refl _).alloc _,ag⟩
def Yv(p m x:Int):Bool:=decide (0<=x/\x<CV p m)
theorem Qd(p m x:Int)(mv:Value)(w:World):
  Calls Tryz.prog 200 #[.agg #[.int .i64 p,.int .i64 m,mv],.int .i64 x] w fun r w'=>r= .returned (.bool (Yv p m x))/\Ex w w':=by
 obtain⟨d0,d1,d2,e0,_⟩:=AO w p m mv;have HO:=Aa (fun w=>CJ p m mv w);have HI:=Aa (show Yv p m x=decide (0<=x/\x<CV p m) from rfl);generalize CV p m=q at *;by_cases h0:0<=x
 .go_enter Tryz.func200,Tryz.ntmps200
  go_wp2_with fail
  generalize w.alloc (.cells #[.int .i64 p,.int .i64 m,mv] 24)=w1 at *;refine(HO.o _).mono ?_;rintro e w2⟨rfl,hx⟩;go_wp2_with fail
  go_ret;exact⟨Ao (by rw[HI.o];simp[h0]),e0.trans hx⟩
 .go_enter Tryz.func200,Tryz.ntmps200
  go_wp2_with fail
  go_ret;exact⟨Ao (by rw[HI.o];simp;omega),e0⟩
theorem Iz.ord{p m:Nat}{ml:List Int}(h:Iz p m ml):CV p m=((p^m:Nat):Int):=by
 obtain⟨a,b,c,d,e,f⟩:=h;exact zbk
section
variable {p m:Nat} {ml:List Int} {mv:Value}
theorem zaZ{P:Prop}(h:P:=by
 clear h ho hf;go_enter Tryz.func207,Tryz.ntmps207
 go_wp2_with fail
 generalize w.alloc (.cells #[.int .i64 p,.int .i64 m,mv] 24)=w1 at *;refine(HI.o _).mono ?_;rintro e w2⟨rfl,hx⟩;go_wp2_with fail
 go_ret;exact⟨Af HK.o.symm,e0.trans hx⟩):P:=h
theorem Vs(w:World)(hf:Iz p m ml)(x:Int):
  Calls Tryz.prog 207 #[.agg #[.int .i64 p,.int .i64 m,mv],.int .i64 x] w fun r w'=>r= .returned (.int .i64 (AA (p^m) x:Nat))/\Ex w w':=by
 obtain⟨d0,d1,d2,e0,_⟩:=AO w p m mv;have HI:=Aa (fun w=>Qd p m x mv w);have ho:=hf.ord;by_cases h:0<=x/\x<((p^m:Nat):Int)
 .have HK:=Aa (show((AA (p^m) x:Nat):Int)=x by unfold AA;rw[if_pos h];omega);rw[show Yv p m x=true from decide_eq_true (by rw[ho];exact h)]at HI;exact zaZ
 .have HK:=Aa (show((AA (p^m) x:Nat):Int)=0 by unfold AA;rw[if_neg h];rfl);rw[show Yv p m x=false from decide_eq_false (by rw[ho];exact h)]at HI;exact zaZ
def Zg(p m:Nat)(x:Nat)(w w':World)(v:Value):Prop:=∃g,v= .slice (some ⟨g,0,none⟩) m m/\AG w' w.heap.size 3 g m (iv (AS p m x))
theorem Ie(w:World)(hf:Iz p m ml)(x:Int):
  Calls Tryz.prog 167 #[.agg #[.int .i64 p,.int .i64 m,mv],.int .i64 x] w fun r w'=>∃v,r= .returned v/\Zg p m (AA (p^m) x) w w' v/\Ex w w':=by
 obtain⟨d0,d1,d2,e0,_⟩:=AO w p m mv;have HI:=Aa (fun w=>Vs (mv:=mv) w hf x);have p2:=hf.p2;have m8:=hf.m8;have p256:=hf.p256;have hq:=hf.q;have hz:=Cx (show 1<=p^m from Nat.pow_pos ac) x;generalize AA (p^m) x=z at *;have aB:z<=65536:=c9;clear hz hf hq;go_enter Tryz.func167,Tryz.ntmps167
 go_wp2_with fail
 generalize w.alloc (.cells #[.int .i64 p,.int .i64 m,mv] 24)=w1 at *;have HW:=Aa e0.size;obtain⟨xb,aA⟩:=nA w.heap.size;rw[aA]at d0 d1 d2
 try simp only[aA]
 have HXB:=Aa aA;clear aA
 go_region_held3 (fun w'=>w'.cell? ⟨xb,0,none⟩=some (.int .i64 p)/\w'.cell? ⟨xb,1,none⟩=some (.int .i64 m)/\w'.cell? ⟨xb,2,none⟩=some mv/\Ex w w')
  (first|exact⟨d0,d1,d2,e0.drew⟩|exact⟨hx1.cell d0,hx1.cell d1,hx1.cell d2,e0.drew.trans hx1⟩|(obtain⟨k0,k1,k2,k3⟩:=‹_/\_/\_/\Ex w _›;exact⟨hx1.cell k0,hx1.cell k1,hx1.cell k2,k3.trans hx1⟩))
  ((first
      | (go_at_call 207;refine(HI.o _).mono ?_;rintro e w2⟨rfl,hx1⟩)
      | (go_at_call 171;refine(Ib _ _ _ _ aB ac ac ac).mono ?_;rintro e w3⟨v,rfl,⟨g,rfl,hg1,hg2⟩,hx1⟩)))
 go_wp2_with fail
 go_ret;have hE:=(‹_/\_/\_/\Ex w _›).2.2.2;exact⟨_,rfl,⟨g,rfl,hg2.mono (by
  have:=hx1.size;have h1:=(e0.drew.trans ‹Ex w1.drew w2›).size;omega)⟩,hE⟩
theorem zbN{P:Prop}(h:P:=by
 go_wp2_with fail
 go_ret;exact⟨Af HF.o.symm,e0.trans hx⟩):P:=h
theorem OX(w:World)(hf:Iz p m ml)(l:List Int)(v:Value)(hl:Ak w v l)(hb:∀x∈l,0<=x/\x<p)(hq:p^l.length<=65536):
  Calls Tryz.prog 168 #[.agg #[.int .i64 p,.int .i64 m,mv],v] w fun r w'=>r= .returned (.int .i64 (vl p l))/\Ex w w':=by
 obtain⟨d0,d1,d2,e0,_⟩:=AO w p m mv;obtain⟨a,cap,rfl,s1,s2,s3⟩:=(hl.ex e0).open;have p2:=hf.p2;have p256:=hf.p256;have hp:1<=p:=ac;unfold maxLen at s2;have S3:=Aa s3;have HV:=Aa (show vl p l=vl p (l.drop 0) from rfl);have HR:=Aa (show ∀k,0<=vl p (l.drop k)/\vl p (l.drop k)*(p:Int)<=16777216/\vl p (l.drop k)<=65536 from fun k=>by
  obtain⟨h1,h2⟩:=OH hp (l.drop k) fun x hx=>hb x (List.mem_of_mem_drop hx);have h3:p^(l.drop k).length<=p^l.length:=Nat.pow_le_pow_right hp (by rw[List.length_drop];omega);have h4:=Int.mul_le_mul (show vl p (l.drop k)<=65536 by omega) (show(p:Int)<=256 by omega) ac ac;exact⟨h1,h4,ac⟩)
 have HX:=Aa (show ∀(k:Nat) (x:Int),l[k]?=some x->0<=x/\x<=256 from fun k x h=>by have:=hb x (List.mem_of_getElem? h);omega);have HN:=Aa (show vl p (l.drop l.length)=0 by rw[List.drop_length];rfl);clear hl s3 hb hq hf;go_enter Tryz.func168,Tryz.ntmps168
 go_wp2_with fail
 generalize w.alloc (.cells #[.int .i64 p,.int .i64 m,mv] 24)=w1 at *
 go_loopw [5,6] (fun x' i' wr=>∃k:Nat,k<=l.length/\i'= .int .i64 ((k:Int)-1)/\x'= .int .i64 (vl p (l.drop k))/\Ex w1 wr) (fun _ i' _=>(intOf i'+1).toNat)
 case atStart=>exact⟨l.length,ac,rfl,by rw[HN.o],Ex.refl _⟩
 case round=>
  obtain⟨k,hk,rfl,rfl,hx⟩:=hrel;obtain⟨r1,r2,r3⟩:=HR.o k;rcases k with _|k
  .have HF:=Aa HV.o;generalize vl p (l.drop 0)=y at *;exact zbN
  .have r0:0<=vl p (l.drop (k+1))*(p:Int):=Int.mul_nonneg r1 ac;obtain⟨x,aA⟩:∃x,l[k]?=some x:=⟨_,List.getElem?_eq_getElem ac⟩;obtain⟨b,o,rfl,hc⟩:=S3.o ac;have c1:=hx.cell (hc k x aA);have c0:=hx.cell d0;obtain⟨x1,x2⟩:=HX.o k x aA;have HG:=Aa (WT p l k x aA);have e:(((k+1:Nat)):Int)-1=k:=by omega
   rw[e];have hkl:k<l.length:=ac;clear hc aA e;generalize vl p (l.drop (k+1))=y at *;have i1:IntKind.i64.wrap (y*(p:Int))=y*(p:Int):=IntWalk.i64_in _ ac;have i2:IntKind.i64.wrap (y*(p:Int)+x)=y*(p:Int)+x:=IntWalk.i64_in _ ac;go_wp2_with fail
   go_quiet (fail)
   clear i1 i2;go_wp2_with fail
   go_roundw
   case rel=>exact⟨k,ac,rfl,by rw[HG.o],hx.drewN _⟩
   case measure=>simp[intOf]
end
end
section
open Go.RowKit
section
variable {p m:Nat} {ml:List Int} {mv:Value}
theorem TP{n:Nat}{f:Nat->Int}{z:Int}(h:z∈il n f):∃j,j<n/\f j=z:=by
 obtain⟨j,hj,rfl⟩:=List.mem_map.1 h;exact⟨j,List.mem_range.1 hj,rfl⟩
end
end
section
open Go.RowKit
theorem AG.pre{w:World}{base:Nat}{e:TypeId}{g n m:Nat}{f:Nat->Int}(h:AG w base e g n (iv f))(hm:m<=n):Ak w (.slice (some ⟨g,0,none⟩) m n) (il m f):=by
 have hn:=h.le;refine⟨by rw[AP];omega,some ⟨g,0,none⟩,n,by rw[Aj],by rw[Aj];exact hm,hn,fun _=>⟨g,0,rfl,fun j u hu=>?_⟩⟩;rw[Ch]at hu;have hj:j<m:=by have:=(List.getElem?_eq_some_iff.1 hu).1;rwa[Bm]at this
 rw[Dy hj]at hu;injection hu with hu;rw[Nat.zero_add,<-hu];exact h.cell ac
section
variable {p m:Nat} {ml:List Int} {mv:Value}
def Ka(p m:Nat)(ml:List Int)(n i j:Nat)(a b c:Vc):Prop:=BT p (ap m (lw ml) n c Aq) (fun t=>ap m (lw ml) i a b t+a i*CU m (lw ml) i (ap m (lw ml) j b Aq) t)
def UE(p m:Nat)(ml:List Int)(i j:Nat)(c0 c:Vc):Prop:=BT p (fun t=>ap m (lw ml) i c Aq t) (fun t=>ap m (lw ml) i c0 Aq t-c0 i*CU m (lw ml) (i-m) (ap m (lw ml) j (lw ml) Aq) t)
theorem bn{P:Prop}(h:P:=by rw[<-hD];exact⟨Int.emod_nonneg _ ac,Int.emod_lt_of_pos _ ac⟩):P:=h
theorem dl{P:Prop}(h:P:=by rw[Int.tmod_eq_emod_of_nonneg ac];exact hD):P:=h
theorem SU(w:World)(hf:Iz p m ml)(bB:Ak w mv ml)(x y:Int):
  Calls Tryz.prog 114 #[.agg #[.int .i64 p,.int .i64 m,mv],.int .i64 x,.int .i64 y] w fun r w'=>r= .returned (.int .i64 (Ar p m (lw ml) (AA (p^m) x) (AA (p^m) y):Nat))/\Ex w w':=by
 obtain⟨d0,d1,d2,e0,bP⟩:=AO w p m mv;have cF:=Aa (fun w=>Ie (mv:=mv) w hf x);have cE:=Aa (fun w=>Ie (mv:=mv) w hf y);have bY:=Aa (fun w l v h1 h2 h3=>OX (mv:=mv) w hf l v h1 h2 h3);have p2:=hf.p2;have m1:=hf.m1;have m8:=hf.m8;have p256:=hf.p256;have hq:=hf.q;have aL:=hf.len;obtain⟨am,cm,rfl,c1,c2,c3⟩:=(bB.ex e0).open;have C3:=Aa c3;have bV:=Aa aL;unfold maxLen at c2;have cD:=Aa (show ∀j,0<=lw ml j/\lw ml j<p from fun j=>by
  unfold lw;rw[List.getD_eq_getElem?_getD];rcases h:ml[j]? with _|z
  .simp;omega
  .exact hf.rng z (List.mem_of_getElem? h))
 generalize AA (p^m) x=z at *;generalize AA (p^m) y=t at *;have bX:=Aa (Ed (show 1<=p by omega) m z);have bW:=Aa (Ed (show 1<=p by omega) m t);have aS:=Aa (A6 p m t);have aZ:=Aa (fun c h1 h2=>Vq (p:=p) (m:=m) (low:=lw ml) (show 1<=p by omega) (x:=z) (y:=t) (c:=c) h1 h2);have HQ:=Aa hq;obtain⟨N,hN⟩:=nA (2*m-1);have hN1:(2:Int)*m-1=(N:Int):=by omega
 have bH:N=2*m-1:=hN.symm;clear hf bB hq c3 aL hN;go_enter Tryz.func114,Tryz.ntmps114
 go_wp2_with fail
 generalize w.alloc (.cells #[.int .i64 p,.int .i64 m,.slice am ml.length cm] 24)=w1 at *;refine(cF.o _).mono ?_;rintro e w2⟨v,rfl,⟨g,rfl,hg⟩,aJ⟩;have r0:=aJ.cell d0;have r1:=aJ.cell d1;have r2:=aJ.cell d2;go_wp2_with fail
 refine(cE.o _).mono ?_;rintro e w3⟨v,rfl,⟨k,rfl,hk⟩,aI⟩;have s0:=aI.cell r0;have s1:=aI.cell r1;have s2:=aI.cell r2;have HG:=Aa (hg.ex aI);have aY:=Aa (hk.mono (show w1.heap.size<=w2.heap.size from aJ.size));have aE:=aJ.trans aI;have HE:=Aa e0;have aN:=Aa bH;clear r0 r1 r2 hg hk aJ aI e0 bP bH;go_wp2_with (at_make;refine Ap _ rfl _ _ 22 rfl 3 (.int .i64 0) 8 Tryz.underlying22 Aw rfl _ N rfl rfl ac (by have:=aN.o;omega) (by have:=aN.o;unfold maxLen;omega) ?_)
 intro w4 aK aO;obtain⟨h,hh⟩:=nA w3.heap.size;have bT:g<h:=by rw[<-hh];exact HG.o.lt.2
 have bR:k<h:=by rw[<-hh];exact aY.o.lt.2
 have bJ:=Aa (show AG w4 w1.heap.size 3 h N (iv fun _=>0) by rw[<-hh];exact aK.mono aE.size);have bL:=Aa (HG.o.ex aO);have bK:=Aa (aY.o.ex aO);have HH:=Aa hh;have aD:=aE.trans aO;have bM:=Aa (show Ka p m ml N 0 0 (AS p m z) (AS p m t) (fun _=>0) from RV (m:=m) (low:=lw ml) p N _ _);have cG:=Aa (show ∀i j c,i+j<N->Ka p m ml N i j (AS p m z) (AS p m t) c->Ka p m ml N i (j+1) (AS p m z) (AS p m t) (Gz c (i+j) ((c (i+j)+AS p m z i*AS p m t j)%(p:Int))) from fun i j c h1 h2=>RW (m:=m) (low:=lw ml) h1 h2);have cH:=Aa (show ∀i c,Ka p m ml N i m (AS p m z) (AS p m t) c->Ka p m ml N (i+1) 0 (AS p m z) (AS p m t) c from fun i c h1=>Ur (m:=m) (low:=lw ml) aS.o h1);have q0:=aD.cell d0;have q1:=aD.cell d1;have q2:=aD.cell d2;simp only[hh];clear aK aE aO HG aY hh s0 s1 s2;go_wp2_with fail
 clear q0 q1 q2
 go_loopw [10,11] (fun i' _ wr=>∃(i:Nat) (c:Nat->Int),i<=m/\i'= .int .i64 i/\Hia (AG wr w1.heap.size 3 h N (iv c))/\Hia (∀j,0<=c j/\c j<p)/\Hia (Ka p m ml N i 0 (AS p m z) (AS p m t) c)/\Hia (AG wr w1.heap.size 3 g m (iv (AS p m z)))/\Hia (AG wr w1.heap.size 3 k m (iv (AS p m t)))/\Ex w1 wr) (fun i' _ _=>m-(intOf i').toNat)
 case atStart=>exact⟨0,fun _=>0,ac,rfl,bJ,Aa (fun j=>⟨Int.le_refl 0,(by omega:(0:Int)<p)⟩),bM,bL,bK,aD⟩
 case round=>
  clear bJ bM bL bK aD;obtain⟨i,c,hi,rfl,aA,aB,aH,aG,aF,hx⟩:=hrel;have q0:=hx.cell d0;have q1:=hx.cell d1;have q2:=hx.cell d2;by_cases hlt:i<m
  .obtain⟨wo,rfl⟩:∃wo:World,wo=wr:=⟨_,rfl⟩;go_wp2_with fail
   clear q0 q1 q2
   go_loopw [11] (fun j' wr=>∃(j:Nat) (c:Nat->Int),j<=m/\j'= .int .i64 j/\Hia (AG wr w1.heap.size 3 h N (iv c))/\Hia (∀j,0<=c j/\c j<p)/\Hia (Ka p m ml N i j (AS p m z) (AS p m t) c)/\Hia (AG wr w1.heap.size 3 g m (iv (AS p m z)))/\Hia (AG wr w1.heap.size 3 k m (iv (AS p m t)))/\Ex w1 wr) (fun j' _=>m-(intOf j').toNat)
   case atStart=>exact⟨0,c,ac,rfl,aA,aB,aH,aG,aF,hx⟩
   case round=>
    clear aA aB aH aG aF hx;obtain⟨j,c,hj,rfl,aA,aB,aH,aG,aF,hx⟩:=hrel;have q0:=hx.cell d0;have q1:=hx.cell d1;have q2:=hx.cell d2;by_cases hlj:j<m
    .have bD:i+j<N:=by have:=aN.o;omega
     have bG:=aG.o.cell hlt;have aM:=aF.o.cell hlj;have bF:=aA.o.cell bD;have hcf:=aA.o.frz (i+j);have aC:=Aa (cG.o i j c bD aH.o);obtain⟨a1,a2⟩:=bX.o i;obtain⟨b1,b2⟩:=bW.o j;obtain⟨e1,e2⟩:=aB.o (i+j);have hva:wr.cell? ⟨g,i,none⟩=some (.int .i64 (AS p m z i)):=bG;have bO:wr.cell? ⟨k,j,none⟩=some (.int .i64 (AS p m t j)):=aM;have hvc:wr.cell? ⟨h,i+j,none⟩=some (.int .i64 (c (i+j))):=bF;clear bG aM bF;generalize AS p m z i=u at *;generalize AS p m t j=v at *;have cI:=Aa (show ∀z,c (i+j)=z->True from fun _ _=>trivial);have e3:0<=u*v:=Int.mul_nonneg a1 b1;have e4:u*v<=65536:=by
      have:=Int.mul_le_mul (show u<=256 by omega) (show v<=256 by omega) ac ac;omega
     obtain⟨D,hD⟩:=nA ((c (i+j)+u*v)%(p:Int));have aQ:0<=D/\D<p:=bn;rw[hD]at aC;have aT:=Aa (aA.o.set (i+j) (.int .i64 D));have cB:=Aa (aG.o.other (a:=⟨h,i+j,none⟩) (Nat.ne_of_lt bT) (.int .i64 D));have cA:=Aa (aF.o.other (a:=⟨h,i+j,none⟩) (Nat.ne_of_lt bR) (.int .i64 D));have aR:=Aa (aA.o.exSet (Nat.le_refl _) hx (i+j) (.int .i64 D));have aX:=Aa (show ∀l,0<=Ax c (i+j) D l/\Ax c (i+j) D l<p from fun l=>by
      unfold Ax;split
      .exact aQ
      .exact aB.o l)
     have i1:IntKind.i64.wrap ((i:Int)+j)=(i:Int)+j:=IntWalk.i64_in _ ac;have i2:IntKind.i64.wrap (u*v)=u*v:=IntWalk.i64_in _ ac;have i3:IntKind.i64.wrap (c (i+j)+u*v)=c (i+j)+u*v:=IntWalk.i64_in _ ac;have i4:(c (i+j)+u*v).tmod (p:Int)=D:=dl;have i5:((i:Int)+j).toNat=i+j:=ac;have i6:(i:Int)+j<(N:Int):=ac;have i7:0<=(i:Int)+j:=ac;have p0:¬p=0:=ac;clear hD cI;go_wp2_with fail
     go_still_tail 24,ah
     change wpList _ _ _ _ _ wr.drew
     go_wp2_with fail
     go_roundw
     case rel=>exact⟨j+1,Ax c (i+j) D,ac,by go_num,Aa (by have:=aT.o.drew;rwa[Cy]at this),aX,aC,Aa cB.o.drew,Aa cA.o.drew,aR.o.drew⟩
     case measure=>simp[intOf];omega
    .obtain rfl:j=m:=by omega
     have aC:=Aa (cH.o i c aH.o);go_wp2_with fail
     go_roundw
     case rel=>exact⟨i+1,c,ac,by go_num,aA,aB,aC,aG,aF,hx⟩
     case measure=>simp[intOf];omega
  .obtain rfl:i=m:=by omega
   have HT:=Aa (show BT p (ap i (lw ml) N c Aq) (ap i (lw ml) i (AS p i z) (AS p i t)) from fun s=>by
    rw[aH.o s];have e:CU i (lw ml) i (ap i (lw ml) 0 (AS p i t) Aq) s=0:=by
     simp only[ap];rw[(Ea i).zero]
    dsimp only;rw[e];simp)
   clear aH aG aF;have aU:=Aa (show ∀(a:Nat) (c:Nat->Int),UE p i ml a 0 c c from fun a c=>KR (m:=i) (low:=lw ml) p c);have aV:=Aa (show ∀(a j:Nat) (c c0:Nat->Int),i<=a->j<i->UE p i ml a j c0 c->c a=c0 a->UE p i ml a (j+1) c0 (Gz c (a-i+j) ((c (a-i+j)+((p:Int)-c a)*lw ml j)%(p:Int))) from fun a j c c0 h1 h2 h3 h4=>Nr (m:=i) (low:=lw ml) (T:=c0) h1 h2 h3 h4);have aW:=Aa (show ∀(a:Nat) (c c0:Nat->Int) (T:Vc),i<=a->BT p (ap i (lw ml) (a+1) c0 Aq) T->UE p i ml a i c0 c->BT p (ap i (lw ml) a c Aq) T from fun a c c0 T h1 h2 h3=>Qc (m:=i) (low:=lw ml) m1 h1 h2 h3);go_wp2_with fail
   clear q0 q1 q2
   go_loopw [12,13] (fun i' _ wr=>∃(a:Nat) (c:Nat->Int),i<=a/\a<=N/\i'= .int .i64 ((a:Int)-1)/\Hia (AG wr w1.heap.size 3 h N (iv c))/\Hia (∀j,0<=c j/\c j<p)/\Hia (BT p (ap i (lw ml) a c Aq) (ap i (lw ml) i (AS p i z) (AS p i t)))/\Ex w1 wr) (fun i' _ _=>(intOf i'+1).toNat)
   case atStart=>exact⟨N,c,by have:=aN.o;omega,Nat.le_refl _,by rw[show(2:Int)*i-2=(N:Int)-1 by omega],aA,aB,HT,hx⟩
   case round=>
    clear aA aB HT hx;obtain⟨a,c,ha1,ha2,rfl,aA,aB,hT,hx⟩:=hrel;have q0:=hx.cell d0;have q1:=hx.cell d1;have q2:=hx.cell d2;by_cases hai:i<a
    .obtain⟨b,rfl⟩:∃b,a=b+1:=⟨a-1,ac⟩;have eb:(((b+1:Nat)):Int)-1=b:=by omega
     rw[eb];have aP:i<=b:=ac;have hbi:(i:Int)<=(b:Int):=ac;clear eb hai;obtain⟨wo,rfl⟩:∃wo:World,wo=wr:=⟨_,rfl⟩;have bI:=Aa (aU.o b c);go_wp2_with fail
     clear q0 q1 q2
     go_loopw [13] (fun j' wr=>∃(j:Nat) (c':Nat->Int),j<=i/\j'= .int .i64 j/\Hia (AG wr w1.heap.size 3 h N (iv c'))/\Hia (∀j,0<=c' j/\c' j<p)/\Hia (UE p i ml b j c c')/\Hia (c' b=c b)/\Ex w1 wr) (fun j' _=>i-(intOf j').toNat)
     case atStart=>exact⟨0,c,ac,rfl,aA,aB,bI,Aa rfl,hx⟩
     case round=>
      clear aA aB hx bI;obtain⟨j,c',hj,rfl,aA,aB,bA,aM,hx⟩:=hrel;have q0:=hx.cell d0;have q1:=hx.cell d1;have q2:=hx.cell d2;by_cases hlj:j<i
      .have bQ:ml.length=i:=by
        have:=bV.o;rw[if_neg (by have:=aN.o;omega)]at this;exact this
       obtain⟨bb,oo,rfl,bE⟩:=C3.o ac;have hm0:=hx.cell (bE j (lw ml j) (by unfold lw;rw[List.getD_eq_getElem?_getD,List.getElem?_eq_getElem ac];rfl));have aC:=Aa (aV.o b j c' c aP hlj bA.o aM.o);have bU:b<N:=by omega
       have bS:b-i+j<N:=ac;have bC:b-i+j≠b:=ac;have bO:wr.cell? ⟨h,b,none⟩=some (.int .i64 (c' b)):=aA.o.cell bU;have hvj:wr.cell? ⟨h,b-i+j,none⟩=some (.int .i64 (c' (b-i+j))):=aA.o.cell bS;have hvf:=aA.o.frz (b-i+j);obtain⟨u1,u2⟩:=aB.o b;obtain⟨v1,v2⟩:=aB.o (b-i+j);obtain⟨l1,l2⟩:=cD.o j;have hjl:j<ml.length:=ac;obtain⟨D,hD⟩:=nA ((c' (b-i+j)+((p:Int)-c' b)*lw ml j)%(p:Int));have aQ:0<=D/\D<p:=bn;rw[hD]at aC;have aT:=Aa (aA.o.set (b-i+j) (.int .i64 D));have aR:=Aa (aA.o.exSet (Nat.le_refl _) hx (b-i+j) (.int .i64 D));have aX:=Aa (show ∀l,0<=Ax c' (b-i+j) D l/\Ax c' (b-i+j) D l<p from fun l=>by
        unfold Ax;split
        .exact aQ
        .exact aB.o l)
       have cJ:=Aa (show Ax c' (b-i+j) D b=c b by rw[Ae _ _ (Ne.symm bC)];exact aM.o);generalize lw ml j=lj at *;have e3:0<=((p:Int)-c' b)*lj:=Int.mul_nonneg ac l1;have e4:((p:Int)-c' b)*lj<=65536:=by
        have:=Int.mul_le_mul (show(p:Int)-c' b<=256 by omega) (show lj<=256 by omega) l1 ac;omega
       have i1:IntKind.i64.wrap ((b:Int)-i)=(b:Int)-i:=IntWalk.i64_in _ ac;have i2:IntKind.i64.wrap ((b:Int)-i+j)=(b:Int)-i+j:=IntWalk.i64_in _ ac;have i3:IntKind.i64.wrap ((p:Int)-c' b)=(p:Int)-c' b:=IntWalk.i64_in _ ac;have i4:IntKind.i64.wrap (((p:Int)-c' b)*lj)=((p:Int)-c' b)*lj:=IntWalk.i64_in _ ac;have i5:IntKind.i64.wrap (c' (b-i+j)+((p:Int)-c' b)*lj)=c' (b-i+j)+((p:Int)-c' b)*lj:=IntWalk.i64_in _ ac;have i6:(c' (b-i+j)+((p:Int)-c' b)*lj).tmod (p:Int)=D:=dl;have i7:((b:Int)-i+j).toNat=b-i+j:=ac;have i8:0<=(b:Int)-i+j:=ac;have i9:(b:Int)-i+j<(N:Int):=ac;have p0:¬p=0:=ac;clear hD bE bC bQ;go_wp2_with fail
       go_still_tail 34,ah
       change wpList _ _ _ _ _ wr.drew
       go_wp2_with fail
       go_roundw
       case rel=>exact⟨j+1,Ax c' (b-i+j) D,ac,by go_num,Aa (by have:=aT.o.drew;rwa[Cy]at this),aX,aC,cJ,aR.o.drew⟩
       case measure=>simp[intOf];omega
      .obtain rfl:j=i:=by omega
       have bZ:=Aa (aW.o b c' c _ aP hT.o bA.o);go_wp2_with fail
       go_roundw
       case rel=>exact⟨b,c',aP,ac,rfl,aA,aB,bZ,hx⟩
       case measure=>simp[intOf]
    .obtain rfl:a=i:=by omega
     have HL:=Aa (aA.o.pre (show a<=N by omega));have HB:=Aa (show ∀e∈il a c,0<=e/\e<p from fun e he=>by
      obtain⟨j,_,rfl⟩:=TP he;exact aB.o j)
     have cC:=Aa (show p^(il a c).length<=65536 by rw[Aj];have:=HQ.o;omega);have HR:=Aa (show vl p (il a c)=((Ar p a (lw ml) z t:Nat):Int) by rw[Sq];exact aZ.o c (fun j _=>aB.o j) hT.o);clear aA aB hT;have i1:(0:Int)<=(a:Int):=by omega
     have i2:(a:Int)<=(N:Int):=ac;go_wp2_with fail
     go_still_tail 5,ah
     change wpList _ _ _ _ _ wr.drew
     go_wp2_with fail
     refine(bY.o _ _ _ (HL.o.ex (Ex.refl _).drew) HB.o cC.o).mono ?_;rintro e w9⟨rfl,bN⟩;go_wp2_with fail
     go_ret;exact⟨Af HR.o,(HE.o.trans hx.drew).trans bN⟩
end
end
end Go.Proofs.YtehieobniamagaaGreat
