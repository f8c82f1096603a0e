/- As XRgn, for regions with guarded operations: an operation that is not wanted lays undef. -/
import Derived.Test.YtehieobniamagaaGreatZa02
namespace Go.Proofs.YtehieobniamagaaGreat
open Go.RowKit
set_option linter.all false
set_option maxRecDepth 100000
set_option maxHeartbeats 1000000
def OW(n:Nat):List Oper->Nat->List Nat->Bool
 | [],_,_=>true
 | o :: l,k,seen=>(o.after.all fun e=> !Region.binds .any e||decide (e.on<k))&&(match o.dst with
  | none=>OW n l (k+1) seen
  | some d=>decide (d<n) && !seen.contains d&&OW n l (k+1) (d :: seen))
structure Q4(ops:Array Oper)(n:Nat):Prop where
 wait:∀(i:Nat) (o:Oper),ops[i]?=some o->∀e∈o.after,Region.binds .any e=true->(e:Edge).on<i
 lt:∀(i:Nat) (o:Oper) (d:Nat),ops[i]?=some o->o.dst=some d->d<n
 inj:∀(i j:Nat) (oi oj:Oper) (d:Nat),ops[i]?=some oi->ops[j]?=some oj->oi.dst=some d->oj.dst=some d->i=j
theorem Hb(n:Nat):∀(l:List Oper) (k:Nat) (aA:List Nat),OW n l k aA=true->∀(i:Nat) (o:Oper),l[i]?=some o->
  (∀e∈o.after,Region.binds .any e=true->e.on<k+i)/\∀d,o.dst=some d->d<n/\d ∉ aA/\∀j oj,j<i->l[j]?=some oj->oj.dst≠some d
 | [],_,_,_,i,o,h=>by simp at h
 | o :: l,k,aA,h,i,o',hi=>by
  unfold OW at h;rw[Bool.and_eq_true]at h;obtain⟨h2,h3⟩:=h
  cases i with
  | zero=>
   simp at hi;subst hi;refine⟨fun e he hb=>?_,fun d hd=>?_⟩
   .rw[Array.all_eq_true_iff_forall_mem]at h2;have:=h2 e he;rw[hb]at this;simpa using this
   .exact zax
  | succ i=>
   simp at hi
   cases hdo:o.dst with
   | none=>
    rw[hdo]at h3;obtain⟨b,c⟩:=Hb n l (k+1) aA h3 i o' hi;refine⟨fun e he hb=>by have:=b e he hb;omega,fun d hd=>?_⟩;exact zbm
   | some d0=>
    rw[hdo]at h3;simp only[Bool.and_eq_true]at h3;obtain⟨b,c⟩:=Hb n l (k+1) (d0 :: aA) h3.2 i o' hi;refine⟨fun e he hb=>by have:=b e he hb;omega,fun d hd=>?_⟩;exact za8
theorem Xe{l:List Oper}{n:Nat}(h:OW n l 0 []=true):Q4 l.toArray n:=by
 have aA:=Hb n l 0 [] h;have hg:∀(i:Nat) o,l.toArray[i]?=some o->l[i]?=some o:=fun i o h=>ay;refine⟨fun i o ho e he hb=>by have:=(aA i o (hg i o ho)).1 e he hb;omega,fun i o d ho hd=>((aA i o (hg i o ho)).2 d hd).1,fun i j oi oj d hi hj h1 h2=>?_⟩;rcases Nat.lt_trichotomy i j with e|e|e
 .exact absurd h1 (((aA j oj (hg j oj hj)).2 d h2).2.2 i oi e (hg i oi hi))
 .exact e
 .exact absurd h2 (((aA i oi (hg i oi hi)).2 d h1).2.2 j oj e (hg j oj hj))
section
variable {ops:Array Oper} {a0 a a':Act} {L L':Nat->Bool} {vals:Nat->Value}
theorem EP.stepW(H:Q4 ops a0.tmps.size)(h:EP ops a0 L vals a){i:Nat}{o:Oper}(ho:ops[i]?=some o)(v:Value):EP ops a0 (Ax L i true) (Ax vals i v) (a.put o.dst v):=by
 exact za5
end
theorem EP.putKW{l0:List Oper}{a0:Act}(H:Q4 l0.toArray a0.tmps.size)(vals:Nat->Value):∀(l aA:List Oper) (a:Act),aA++l=l0->EP l0.toArray a0 (fun i=>decide (i<aA.length)) vals a->EP l0.toArray a0 (fun i=>decide (i<l0.length)) vals (Go.Proofs.YtehieobniamagaaGreat.BU l vals aA.length a)
 | [],aA,a,he,h=>by
  rw[List.append_nil]at he;subst he;exact h
 | o :: l,aA,a,he,h=>by
  have ho:l0.toArray[aA.length]?=some o:=by rw[<-he];simp
  have h1:=h.stepW H ho (vals aA.length);have e1:Ax (fun i=>decide (i<aA.length)) aA.length true=fun i=>decide (i<(aA ++ [o]).length):=by
   exact zb9
  have e2:Ax vals aA.length (vals aA.length)=vals:=by
   funext i;by_cases e:i=aA.length
   .subst e;rw[Ad]
   .rw[Ae _ _ e]
  rw[e1,e2]at h1;have h2:=EP.putKW H vals l (aA ++ [o]) (a.put o.dst (vals aA.length)) (by rw[<-he];simp) h1;rw[List.length_append]at h2;exact h2
section
variable {P:Program} {Q:Exit->Act->World->Prop} {J:(Nat->Bool)->(Nat->Value)->World->Prop} {a0:Act}
def Wx(P:Program)(Q:Exit->Act->World->Prop)(J:(Nat->Bool)->(Nat->Value)->World->Prop)(ops:Array Oper)(a0:Act)(i:Nat)(o:Oper):Prop:=
 ∀L vals a w,EP ops a0 L vals a->J L vals w->L i=false->(∀e∈o.after,Region.binds .any e=true->L e.on=true)->(∀(k:Nat) (o':Oper),L k=true->ops[k]?=some o'->∀e∈o'.after,Region.binds .any e=true->L e.on=true)->
  ∀K:Act->World->Prop,(∀v w',J (Ax L i true) (Ax vals i v) w'->K (a.put o.dst v) w')->if Region.wanted o (yielded ops a.tmps)=true then o.wp P a w K Q else K (a.put o.dst undef) w
theorem SO{l:List Oper}(H:Q4 l.toArray a0.tmps.size)(hs:AG (Wx P Q J l.toArray a0) l 0)
  (he:∀L vals w,(∀i,i<l.length->L i=true)->J L vals w->Q .normal (BU l vals 0 a0) w):
  ∀fuel (listed:Array Bool) a w vals,listed.size=l.length->(List.range l.length).countP (fun i=> !listed.getD i false)<=fuel->(∀(k:Nat) (o':Oper),listed.getD k false=true->l.toArray[k]?=some o'->∀e∈o'.after,Region.binds .any e=true->listed.getD e.on false=true)->EP l.toArray a0 (fun i=>listed.getD i false) vals a->J (fun i=>listed.getD i false) vals w->wpAny P .any l.toArray Q fuel listed a w:=by
 have aG:∀(listed:Array Bool) a w vals,listed.size=l.length->(∀i,i<l.length->listed.getD i false=true)->EP l.toArray a0 (fun i=>listed.getD i false) vals a->J (fun i=>listed.getD i false) vals w->Q .normal a w:=fun listed a w vals aC aB hf hj=>by
  have h1:=he _ vals w aB hj;have h2:=EP.putKW H vals l [] a0 rfl ((EP.init l.toArray a0 vals).congr fun i hi=>ag);have h3:=hf.uniq (h2.congr fun i hi=>by
   have aK:i<l.length:=by simpa using hi
   simp only[aK,decide_true];exact(aB i aK).symm)
  rw[h3];exact h1
 have aB:∀(listed:Array Bool),listed.size=l.length->Region.ready .any l.toArray listed= []->∀i,i<l.length->listed.getD i false=true:=fun listed aC hr i=>by
  induction i using Nat.strongRecOn with
  | ind i ih=>
   intro hi
   cases hb:listed.getD i false with
   | true=>rfl
   | false=>
    exfalso;have ho:l.toArray[i]?=some l[i]:=by simp[hi]
    have hm:i∈Region.ready .any l.toArray listed:=mem_ready.2 ⟨by
     have aD:i<listed.size:=ac;simp[Array.getD,aD]at hb ⊢;exact hb,l[i],ho,fun e aO hb=>by
     have hw:=H.wait i _ ho e aO hb;exact ih e.on hw ac⟩
    rw[hr]at hm;cases hm
 intro fuel
 induction fuel with
 | zero=>
  intro listed a w vals aC hc aJ hf hj;have ha:∀i,i<l.length->listed.getD i false=true:=fun i hi=>by
   exact zbq
  refine⟨?_,aG listed a w vals aC ha hf hj⟩
  cases hr:Region.ready .any l.toArray listed with
  | nil=>rfl
  | cons x t=>
   exfalso;have hm:x∈Region.ready .any l.toArray listed:=by rw[hr];exact List.mem_cons_self ..
   obtain⟨h1,o,h2,_⟩:=mem_ready.1 hm;have hx:x<l.length:=bm;have h3:=ha x hx;have aD:x<listed.size:=ac;simp[Array.getD,aD]at h1 h3;rw[h1]at h3;cases h3
 | succ fuel ih=>
  intro listed a w vals aC hc aJ hf hj;refine⟨fun hr=>aG listed a w vals aC (aB listed aC hr) hf hj,fun i hi=>?_⟩;obtain⟨h1,o,h2,h3⟩:=mem_ready.1 hi;have aN:i<l.length:=bm;have aD:i<listed.size:=ac;have aL:listed.getD i false=false:=by
   simp[Array.getD,aD]at h1 ⊢;exact h1
  have aR:l[i]?=some o:=by simpa using h2
  have Bd:Wx P Q J l.toArray a0 (0+i) o:=hs.get aR;rw[Nat.zero_add]at Bd;have aH:(fun j=>(listed.setIfInBounds i true).getD j false)=Ax (fun j=>listed.getD j false) i true:=by
   funext j;by_cases e:j=i
   .subst e;rw[Ad];simp[Array.getD,aD]
   .exact zaz
  have aI:∀(k:Nat) (o':Oper),(listed.setIfInBounds i true).getD k false=true->l.toArray[k]?=some o'->∀e∈o'.after,Region.binds .any e=true->(listed.setIfInBounds i true).getD e.on false=true:=fun k o' hk aE e he hb=>by
   have e1:=congrFun aH k;have e2:=congrFun aH e.on;rw[e1]at hk;rw[e2];by_cases h0:e.on=i
   .rw[h0,Ad]
   .rw[Ae _ _ h0];by_cases h4:k=i
    .subst h4;rw[h2]at aE;injection aE with aE;subst aE;exact h3 e he hb
    .rw[Ae _ _ h4]at hk;exact aJ k o' hk aE e he hb
  have aF:∀v w',J (Ax (fun j=>listed.getD j false) i true) (Ax vals i v) w'->wpAny P .any l.toArray Q fuel (listed.setIfInBounds i true) (a.put o.dst v) w':=fun v w' aM=>by
   refine ih _ _ _ (Ax vals i v) (by rw[Array.size_setIfInBounds];exact aC) ?_ aI (by rw[aH];exact hf.stepW H h2 v) (by rw[aH];exact aM);have aQ:=MC (fun j=>listed.getD j false) i aL l.length;rw[if_pos aN]at aQ;have aP:(List.range l.length).countP (fun j=> !(listed.setIfInBounds i true).getD j false)=(List.range l.length).countP (fun j=> !(Ax (fun j=>listed.getD j false) i true) j):=by
    congr 1
    funext j;rw[<-congrFun aH j]
   rw[aP];omega
  have aA:=Bd _ vals a w hf hj aL (fun e he hb=>h3 e he hb) aJ _ aF;unfold wpOp;rw[h2];by_cases hw:Region.wanted o (yielded l.toArray a.tmps)=true
  .rw[if_pos hw]at aA;simp only[hw,if_true];exact .inl aA
  .rw[if_neg hw]at aA;simp only[hw];exact aA
theorem I0{id:Nat}{l:List Oper}{w:World}(J:(Nat->Bool)->(Nat->Value)->World->Prop)(hm:P.follows .mixedOrders=true)(hB:OW a0.tmps.size l 0 []=true)(h0:J (fun _=>false) (fun _=>undef) w.drew)
  (hs:AG (Wx P Q J l.toArray a0) l 0) (he:∀L vals w,(∀i,i<l.length->L i=true)->J L vals w->Q .normal (BU l vals 0 a0) w):(Code.region id l.toArray true).wp P Q a0 w:=by
 refine wp_region_any hm ?_;have hL:(fun i=>(Array.replicate l.toArray.size false).getD i false)=fun _=>false:=by
  exact zbn
 refine SO (Xe hB) hs he _ _ _ _ (fun _=>undef) ag (Nat.le_trans List.countP_le_length ag) (fun k o' hk=>by have:=congrFun hL k;rw[this]at hk;cases hk) ?_ ?_
 .rw[hL];exact EP.init _ _ _
 .rw[hL];exact h0
def Gu(l:List Oper)(pv:Nat->Value)(o:Oper):Bool:=match o.guard with
 | none=>true
 | some (j,want)=>match (l[j]?).bind (·.dst) with
  | none=>false
  | some _=>match pv j with
   | .bool b=>b==want
   | _=>false
def ZO(l:List Oper):Bool:=l.all fun o=>match o.guard with
 | none=>true
 | some (j,_)=>o.after.any fun e=>e.on==j&&Region.binds .any e
theorem Si{l:List Oper}{L:Nat->Bool}{pv vals:Nat->Value}{a:Act}(hf:EP l.toArray a0 L vals a)(hv:∀k,L k=true->vals k=pv k){o:Oper}(hg:∀j b,o.guard=some (j,b)->L j=true):
  Region.wanted o (yielded l.toArray a.tmps)=Gu l pv o:=by
 unfold Region.wanted Gu
 cases hgo:o.guard with
 | none=>rfl
 | some jw=>
  obtain⟨j,aA⟩:=jw;have hL:=hg j aA hgo;simp only[yielded,List.getElem?_toArray]
  cases hlj:l[j]? with
  | none=>simp
  | some oj=>
   cases hdj:oj.dst with
   | none=>simp[hdj]
   | some t=>
    have h1:=hf.got j oj t hL (by simpa using hlj) hdj;rw[hv j hL]at h1;simp only[Option.bind_some,hdj,h1];cases pv j <;> simp
def AT(P:Program)(Q:Exit->Act->World->Prop)(l:List Oper)(a0:Act)(pv:Nat->Value)(w:World)(i:Nat)(o:Oper):Prop:=
 if Gu l pv o=true then ∀(L:Nat->Bool) (a:Act) (w':World),(∀k t o',L k=true->l[k]?=some o'->o'.dst=some t->a.tmps[t]?=some (pv k))->(∀t,(l.all fun o=>o.dst !=some t)=true->a.tmps[t]?=a0.tmps[t]?)->(∀e∈o.after,Region.binds .any e=true->L e.on=true)->Ex w w'->
  ∀K:Act->World->Prop,(∀w'',Ex w' w''->K (a.put o.dst (pv i)) w'')->o.wp P a w' K Q
 else pv i=undef
theorem AT.on{l:List Oper}{pv:Nat->Value}{w:World}{i:Nat}{o:Oper}(hw:Gu l pv o=true)(h:∀(L:Nat->Bool) (a:Act) (w':World),(∀k t o',L k=true->l[k]?=some o'->o'.dst=some t->a.tmps[t]?=some (pv k))->(∀t,(l.all fun o=>o.dst !=some t)=true->a.tmps[t]?=a0.tmps[t]?)->(∀e∈o.after,Region.binds .any e=true->L e.on=true)->Ex w w'->
  ∀K:Act->World->Prop,(∀w'',Ex w' w''->K (a.put o.dst (pv i)) w'')->o.wp P a w' K Q):AT P Q l a0 pv w i o:=by
 unfold AT;rw[if_pos hw];exact h
theorem AT.off{l:List Oper}{pv:Nat->Value}{w:World}{i:Nat}{o:Oper}(hw:Gu l pv o=false)(h:pv i=undef):AT P Q l a0 pv w i o:=by
 unfold AT;rw[if_neg (by rw[hw];decide)];exact h
theorem Bp{id:Nat}{l:List Oper}{w:World}(pv:Nat->Value)(hm:P.follows .mixedOrders=true)(hB:OW a0.tmps.size l 0 []=true)(hG:ZO l=true)
  (hs:AG (AT P Q l a0 pv w) l 0) (he:∀w',Ex w w'->Q .normal (BU l pv 0 a0) w'):(Code.region id l.toArray true).wp P Q a0 w:=by
 refine I0 (fun L V w'=>(∀k,L k=true->V k=pv k)/\Ex w w') hm hB ⟨fun k h=>di,(Ex.refl w).drew⟩ ?_ ?_
 .have aD:∀(l':List Oper) (k0:Nat),(∀i o,l'[i]?=some o->l[k0+i]?=some o)->AG (AT P Q l a0 pv w) l' k0->AG (Wx P Q (fun L V w'=>(∀k,L k=true->V k=pv k)/\Ex w w') l.toArray a0) l' k0:=fun l'=>by
   induction l' with
   | nil=>intro _ _ _;trivial
   | cons o l' ih=>
    intro k0 aA h;refine⟨?_,ih (k0+1) (fun i o' hi=>by rw[show k0+1+i=k0+(i+1) from ac];exact aA (i+1) o' hi) h.2⟩;intro L V a w' hf hj hi hd hcl K hK;have aE:l[k0]?=some o:=by have:=aA 0 o rfl;simpa using this
    have hg:∀j b,o.guard=some (j,b)->L j=true:=fun j b aG=>by
     have h1:=List.all_eq_true.1 hG o (List.mem_of_getElem? aE);rw[aG]at h1;simp only[Array.any_eq_true']at h1;obtain⟨e,he,h2⟩:=h1;rw[Bool.and_eq_true,beq_iff_eq]at h2;rw[<-h2.1];exact hd e he h2.2
    rw[Si hf hj.1 hg];have h1:=h.1;unfold AT at h1;have aB:∀v w'',v=pv k0->Ex w w''->K (a.put o.dst v) w'':=fun v w'' hv hx=>hK v w'' ⟨fun k hk=>by
     by_cases e:k=k0
     .subst e;rw[Ad];exact hv
     .rw[Ae _ _ e]at hk ⊢;exact hj.1 k hk,hx⟩
    by_cases hw:Gu l pv o=true
    .rw[if_pos hw]at h1 ⊢;exact h1 L a w' (fun k t o' hk aF aH=>by rw[<-hj.1 k hk];exact hf.in_ k t hk aF aH) (fun t ht=>hf.out_ t ht) hd hj.2 K fun w'' hx=>aB _ _ rfl (hj.2.trans hx)
    .rw[if_neg hw]at h1 ⊢;exact aB _ _ h1.symm hj.2
  exact aD l 0 (fun i o h=>by rw[Nat.zero_add];exact h) hs
 .intro L V w' aC hj;have hp:BU l V 0 a0=BU l pv 0 a0:=EF l 0 V pv a0 fun i o hi hd=>by
   rw[Nat.zero_add];exact hj.1 i (aC i (List.getElem?_eq_some_iff.1 hi).1)
  rw[hp];exact he w' hj.2
end
def Qt(w:World)(v:Value)(r:Ending)(w':World):Prop:=r= .returned v/\∃n,w'=w.drewN n
def Az(q:Nat)(x:Int):Nat:=if 0<=x/\x<q then x.toNat else 0
theorem Cr{q:Nat}(hq:1<=q)(x:Int):Az q x<q:=by
 unfold Az;split <;> omega
theorem Bj{q:Nat}{x:Nat}(h:x<q):Az q x=x:=by
 unfold Az;rw[if_pos ac];rfl
def Fa(q:Nat)(x:Int):Bool:=decide (0<=x/\x<q)
theorem JU{p:Nat}{v:Vc}{k:Nat}(h:∀j,k<=j->v j=0):∀n,k<=n->DO p n v=DO p k v
 | 0,hk=>by
   obtain rfl:k=0:=ac;rfl
 | n+1,hk=>by
  rcases Nat.eq_or_lt_of_le hk with e|e
  .rw[e]
  .simp only[DO];rw[JU h n ac,h n ac];simp
theorem Tx{p:Nat}(hp:1<=p)(m x y:Nat):((A5 p m x y:Nat):Int)=DO p m (fun j=>(Bt p m x j+Bt p m y j)%(p:Int)):=by
 unfold A5 rep;rw[Int.toNat_of_nonneg (CR (fun j=>⟨Int.emod_nonneg _ ac,Int.emod_lt_of_pos _ ac⟩) m).1]
theorem Ts{p:Nat}(hp:1<=p)(m x:Nat):((Dy p m x:Nat):Int)=DO p m (fun j=>((p:Int)-Bt p m x j)%(p:Int)):=by
 unfold Dy rep;rw[Int.toNat_of_nonneg (CR (fun j=>⟨Int.emod_nonneg _ ac,Int.emod_lt_of_pos _ ac⟩) m).1];refine DE m fun j _=>?_;exact BW.2 ⟨-1,by grind⟩
theorem MA{p m x k:Nat}(hk:k<m):Bt p m x k=((x/p^k%p:Nat):Int):=by unfold Bt;rw[if_pos hk]
theorem JP{p m x k:Nat}(h:x/p^k=0)(hp:1<=p){j:Nat}(hj:k<=j):Bt p m x j=0:=by
 unfold Bt;split
 .obtain⟨c,rfl⟩:∃c,j=k+c:=⟨j-k,ac⟩;rw[Nat.pow_add,<-Nat.div_div_eq_div_mul,h,Nat.zero_div];simp
 .rfl
section
variable {b p m x0:Nat} {ml:List Int}
theorem MR(w:World)(hg:AP w b p m ml x0)(x:Int):
  Calls Tryz.prog 199 #[.pointer (some ⟨b,0,none⟩),.int .i64 x] w (Qt w (.bool (Fa (p^m) x))):=by
 have c3:=hg.c3;have HB:=Aa (show Fa (p^m) x=decide (0<=x/\x<((p^m:Nat):Int)) from rfl);generalize p^m=q at *;clear hg;by_cases h0:0<=x
 .go_enter Tryz.func199,Tryz.ntmps199
  go_wp2
  go_ret;exact⟨Ao (by rw[HB.o];simp[h0]),0,rfl⟩
 .go_enter Tryz.func199,Tryz.ntmps199
  go_wp2
  go_ret;exact⟨Ao (by rw[HB.o];simp;omega),0,rfl⟩
theorem zbi{P:Prop}(h:P:=by
 generalize p^m=q at *;clear hg h;go_enter Tryz.func160,Tryz.ntmps160
 go_wp2_with fail
 refine HI.o.mono ?_;rintro e w1⟨rfl,n,rfl⟩;go_wp2_with fail
 go_ret;exact⟨Ag HK.o.symm,n,rfl⟩):P:=h
theorem Gq(w:World)(hg:AP w b p m ml x0)(x:Int):
  Calls Tryz.prog 160 #[.pointer (some ⟨b,0,none⟩),.int .i64 x] w (Qt w (.int .i64 (Az (p^m) x:Nat))):=by
 have HI:=Aa (MR w hg x);by_cases h:0<=x/\x<((p^m:Nat):Int)
 .have HK:=Aa (show((Az (p^m) x:Nat):Int)=x by unfold Az;rw[if_pos h];omega);rw[show Fa (p^m) x=true from decide_eq_true h]at HI;exact zbi
 .have HK:=Aa (show((Az (p^m) x:Nat):Int)=0 by unfold Az;rw[if_neg h];rfl);rw[show Fa (p^m) x=false from decide_eq_false h]at HI;exact zbi
theorem AP.drewN{w:World}(h:AP w b p m ml x0)(n:Nat):AP (w.drewN n) b p m ml x0:=h.ex ((Ex.refl w).drewN n)
theorem zbM{P:Prop}(h:P:=by
 have:=Int.mul_le_mul (show D<=256 by omega) (show(pk:Int)<=256 by omega) (by omega) (by omega);omega):P:=h
theorem MO(w:World)(hg:AP w b p m ml x0)(x:Int):
  Calls Tryz.prog 158 #[.pointer (some ⟨b,0,none⟩),.int .i64 x] w (Qt w (.int .i64 (Dy p m (Az (p^m) x):Nat))):=by
 have HI:=Aa (Gq w hg x);have c0:=hg.c0;have p2:=hg.sh.p2;have m1:=hg.sh.m1;have m8:=hg.sh.m8;have hq:=hg.sh.q;have p256:=hg.sh.p256;have hz:Az (p^m) x<p^m:=Cr (Nat.pow_pos ac) x;generalize Az (p^m) x=z at *;have HK:=Aa (Ts (show 1<=p by omega) m z);have aD:=Aa (show ∀k,k<m->DO p (k+1) (fun j=>((p:Int)-Bt p m z j)%(p:Int))=DO p k (fun j=>((p:Int)-Bt p m z j)%(p:Int))+((p:Int)-((z/p^k%p:Nat):Int))%(p:Int)*((p^k:Nat):Int) from fun k hk=>by
  simp only[DO];rw[MA hk])
 have HR:=Aa (fun k=>CR (v:=fun j=>((p:Int)-Bt p m z j)%(p:Int)) (fun j=>⟨Int.emod_nonneg _ ac,Int.emod_lt_of_pos _ ac⟩) k);have HE:=Aa (show ∀k,k<=m->z/p^k=0->((Dy p m z:Nat):Int)=DO p k (fun j=>((p:Int)-Bt p m z j)%(p:Int)) from fun k hk h=>by
  rw[HK.o];refine JU (fun j hj=>?_) m hk;rw[JP h ac hj];simp)
 obtain⟨aE,HM,HD,aL⟩:=Eq (show ∀k,k<=m->p^k<=256 from fun k hk=>Nat.le_trans (Nat.pow_le_pow_right ac hk) hq) (show ∀k,m<=k->z/p^k=0 from fun k hk=>Nat.div_eq_of_lt (Nat.lt_of_lt_of_le hz (Nat.pow_le_pow_right ac hk))) (show ∀k,z/p^(k+1)=z/p^k/p from fun k=>by rw[Nat.pow_succ,Nat.div_div_eq_div_mul]) (fun k=>Nat.pow_succ p k);have z256:z<256:=by omega
 have aO:=Aa c0;clear hg c0 HK;obtain⟨C,hC⟩:∃C:Nat->Int,(fun k=>DO p k (fun j=>((p:Int)-Bt p m z j)%(p:Int)))=C:=⟨_,rfl⟩;have aC:∀k,DO p k (fun j=>((p:Int)-Bt p m z j)%(p:Int))=C k:=fun k=>congrFun hC k;simp only[aC]at aD HR HE;have aN:=Aa (show C 0=0 by rw[<-aC];rfl);clear hC aC hz;go_enter Tryz.func158,Tryz.ntmps158
 go_wp2_with fail
 refine HI.o.mono ?_;rintro e w1⟨rfl,n0,rfl⟩;go_wp2_with fail
 go_loopw [1,5,6] (fun z' o' q' wr=>∃k n:Nat,k<=m/\z'= .int .i64 ((z/p^k:Nat):Int)/\o'= .int .i64 (C k)/\q'= .int .i64 ((p^k:Nat):Int)/\wr=w.drewN n) (fun _ _ q' _=>300-(intOf q').toNat)
 case atStart=>exact⟨0,n0,ac,ag,by rw[aN.o],ag,rfl⟩
 case round=>
  obtain⟨k,n,hk,rfl,rfl,rfl,rfl⟩:=hrel;have hdz:z/p^k<=z:=Nat.div_le_self _ _;have hpl:=aE.o k hk;have hpp:1<=p^k:=Nat.pow_pos ac;obtain⟨r1,r2⟩:=HR.o k;obtain⟨HS,aH,aG,aM,aF⟩:=Of (aD.o k) (HE.o k hk) (HM.o k) (HD.o k) (aL.o k);have r0:=aO.o;generalize z/p^k=y at *;generalize p^k=pk at *;by_cases hy:y=0
  .subst hy;have HF:=Aa (aH.o rfl);go_wp2_with fail
   go_ret;exact⟨Ag HF.o.symm,n,rfl⟩
  .have aB:k<m:=by
    rcases Nat.lt_or_ge k m with h|h
    .exact h
    .exact absurd (aG.o h) hy
   have aK:=Aa (HS.o aB);have aA:=aE.o (k+1) aB;rw[aF.o]at aA;have aI:0<y:=ac;have hym:=Nat.mod_lt y (show 0<p by omega);have HYD:=Aa (Nat.div_lt_self aI (show 1<p by omega));have aJ:=Aa (Gv y p ac);have i1:(y:Int).tmod (p:Int)=((y%p:Nat):Int):=by rw[Int.tmod_eq_emod_of_nonneg ac];rfl
   generalize y%p=u at *;have d1:=Int.emod_nonneg ((p:Int)-u) (show(p:Int)≠0 by omega);have d2:=Int.emod_lt_of_pos ((p:Int)-u) (show 0<(p:Int) by omega);have i3:((p:Int)-u).tmod (p:Int)=((p:Int)-u)%(p:Int):=Int.tmod_eq_emod_of_nonneg ac;generalize ((p:Int)-u)%(p:Int)=D at *;have d3:0<=D*(pk:Int):=Int.mul_nonneg d1 ac;have d4:D*(pk:Int)<=65536:=by
    exact zbM
   have d5:(pk:Int)*(p:Int)=((pk*p:Nat):Int):=ag;have d6:0<=(pk:Int)*(p:Int):=ac;have d7:(pk:Int)*(p:Int)<=256:=ac;have p0:¬p=0:=ac;have i2:IntKind.i64.wrap ((p:Int)-u)=(p:Int)-u:=IntWalk.i64_in _ ac;have i4:IntKind.i64.wrap (D*(pk:Int))=D*(pk:Int):=IntWalk.i64_in _ ac;have i5:IntKind.i64.wrap (C k+D*(pk:Int))=C k+D*(pk:Int):=IntWalk.i64_in _ ac;clear HS aH aG hy;have D5:=Aa d5;have D8:=Aa (show(pk:Int)<(pk:Int)*(p:Int) by rw[d5];have:=Nat.mul_le_mul_left pk p2;omega);clear d5;go_wp2_with fail
   go_quiet (fail)
   clear i1 i2 i3 i4 i5;go_wp2_with fail
   go_roundw
   case rel=>exact⟨k+1,_,aB,by rw[aM.o,<-aJ.o],by rw[aK.o],by rw[aF.o,D5.o],rfl⟩
   case measure=>have h1:=D8.o;simp[intOf];omega
theorem My{m z j:Nat}(hj:j<m):Bt 2 m z j=if z.testBit j then 1 else 0:=by
 rw[MA hj,Nat.testBit_eq_decide_div_mod_eq];have:z/2^j%2=0∨z/2^j%2=1:=ac;rcases this with h|h <;> simp[h]
theorem Tv{m x y:Nat}(hx:x<2^m)(hy:y<2^m):A5 2 m x y=x ^^^ y:=by
 have hz:x ^^^ y<2^m:=Nat.xor_lt_two_pow hx hy;unfold A5;rw[<-ID (m:=m) (show 1<=2 by omega) hz];refine Eh fun j=>?_;by_cases hj:j<m
 .rw[My hj,My hj,My hj,Nat.testBit_xor];cases x.testBit j <;> cases y.testBit j <;> rfl
 .rw[Bh 2 m x j ac,Bh 2 m y j ac,Bh 2 m _ j ac];rfl
theorem zcj{P:Prop}(h:P:=by
 rw[BitVec.ofInt_natCast,BitVec.toNat_ofNat];exact Nat.mod_eq_of_lt (by omega)):P:=h
theorem UP{x y:Nat}(hx:x<2^62)(hy:y<2^62):bits BinOp.xor IntKind.i64 (x:Int) (y:Int)=((x ^^^ y:Nat):Int):=by
 have hz:x ^^^ y<2^62:=Nat.xor_lt_two_pow hx hy;have h1:(BitVec.ofInt 64 (x:Int)).toNat=x:=by
  exact zcj
 have h2:(BitVec.ofInt 64 (y:Int)).toNat=y:=by
  exact zcj
 show IntKind.i64.wrap ((BitVec.ofInt 64 (x:Int) ^^^ BitVec.ofInt 64 (y:Int)).toNat:Int)=_
 rw[BitVec.toNat_xor,h1,h2,IntWalk.i64_in _ ac]
theorem IZ(w:World)(hg:AP w b p m ml x0)(x y:Int):
  Calls Tryz.prog 163 #[.pointer (some ⟨b,0,none⟩),.int .i64 x,.int .i64 y] w (Qt w (.int .i64 (A5 p m (Az (p^m) x) (Az (p^m) y):Nat))):=by
 have HI:=Aa (fun n x=>Gq (w.drewN n) (hg.drewN n) x);have aN:=Aa (Gq w hg x);have c0:=hg.c0;have p2:=hg.sh.p2;have m1:=hg.sh.m1;have m8:=hg.sh.m8;have hq:=hg.sh.q;have p256:=hg.sh.p256;have hz:Az (p^m) x<p^m:=Cr (Nat.pow_pos ac) x;have ht:Az (p^m) y<p^m:=Cr (Nat.pow_pos ac) y;have aM:=Aa (fun n=>HI.o n y);clear HI;generalize Az (p^m) x=z at *;generalize Az (p^m) y=s at *;have z256:z<256:=db;have s256:s<256:=ac;have aF:=Aa c0;by_cases h2:p=2
 .subst h2;have HX:=Aa (Tv hz ht);have HB:=Aa (UP (x:=z) (y:=s) ac ac);clear hg c0 hz ht hq;go_enter Tryz.func163,Tryz.ntmps163
  go_wp2_with fail
  refine aN.o.mono ?_;rintro e w1⟨rfl,n0,rfl⟩;go_wp2_with fail
  refine(aM.o n0).mono ?_;rintro e w1⟨rfl,n1,rfl⟩;have c0:=aF.o;go_wp2_with fail
  go_ret;exact⟨Ag (by rw[HX.o,<-HB.o]),_,rfl⟩
 .have HK:=Aa (Tx (show 1<=p by omega) m z s);have aI:=Aa (show ∀k,k<m->DO p (k+1) (fun j=>(Bt p m z j+Bt p m s j)%(p:Int))=DO p k (fun j=>(Bt p m z j+Bt p m s j)%(p:Int))+(((z/p^k%p:Nat):Int)+((s/p^k%p:Nat):Int))%(p:Int)*((p^k:Nat):Int) from fun k hk=>by
   simp only[DO];rw[MA hk,MA hk])
  have HR:=Aa (fun k=>CR (v:=fun j=>(Bt p m z j+Bt p m s j)%(p:Int)) (fun j=>⟨Int.emod_nonneg _ ac,Int.emod_lt_of_pos _ ac⟩) k);have HE:=Aa (show ∀k,k<=m->z/p^k=0->s/p^k=0->((A5 p m z s:Nat):Int)=DO p k (fun j=>(Bt p m z j+Bt p m s j)%(p:Int)) from fun k hk h h'=>by
   rw[HK.o];refine JU (fun j hj=>?_) m hk;rw[JP h ac hj,JP h' ac hj];simp)
  obtain⟨aJ,HM,aU,HD,aT⟩:=Of (show ∀k,k<=m->p^k<=256 from fun k hk=>Nat.le_trans (Nat.pow_le_pow_right ac hk) hq) (show ∀k,m<=k->z/p^k=0 from fun k hk=>Nat.div_eq_of_lt (Nat.lt_of_lt_of_le hz (Nat.pow_le_pow_right ac hk))) (show ∀k,m<=k->s/p^k=0 from fun k hk=>Nat.div_eq_of_lt (Nat.lt_of_lt_of_le ht (Nat.pow_le_pow_right ac hk))) (show ∀z k,z/p^(k+1)=z/p^k/p from fun z k=>by rw[Nat.pow_succ,Nat.div_div_eq_div_mul]) (fun k=>Nat.pow_succ p k);have hp2:((p:Int)==2)=false:=by simp;omega
  clear hg c0 HK;obtain⟨C,hC⟩:∃C:Nat->Int,(fun k=>DO p k (fun j=>(Bt p m z j+Bt p m s j)%(p:Int)))=C:=⟨_,rfl⟩;have aD:∀k,DO p k (fun j=>(Bt p m z j+Bt p m s j)%(p:Int))=C k:=fun k=>congrFun hC k;simp only[aD]at aI HR HE;have aW:=Aa (show C 0=0 by rw[<-aD];rfl);clear hC aD hz ht h2;go_enter Tryz.func163,Tryz.ntmps163
  go_wp2_with fail
  refine aN.o.mono ?_;rintro e w1⟨rfl,n0,rfl⟩;go_wp2_with fail
  refine(aM.o n0).mono ?_;rintro e w1⟨rfl,n1,rfl⟩;have c0:=aF.o;go_wp2_with fail
  clear c0
  go_loopw [1,2,7,8] (fun z' s' o' q' wr=>∃k n:Nat,k<=m/\z'= .int .i64 ((z/p^k:Nat):Int)/\s'= .int .i64 ((s/p^k:Nat):Int)/\o'= .int .i64 (C k)/\q'= .int .i64 ((p^k:Nat):Int)/\wr=w.drewN n) (fun _ _ _ q' _=>300-(intOf q').toNat)
  case atStart=>exact⟨0,_,ac,ag,ag,by rw[aW.o],ag,rfl⟩
  case round=>
   obtain⟨k,n,hk,rfl,rfl,rfl,rfl,rfl⟩:=hrel;have hdz:z/p^k<=z:=Nat.div_le_self _ _;have hds:s/p^k<=s:=Nat.div_le_self _ _;have hpl:=aJ.o k hk;have hpp:1<=p^k:=Nat.pow_pos ac;obtain⟨r1,r2⟩:=HR.o k;obtain⟨HS,aO,aL,aK,aQ,aP,aE⟩:=OK (aI.o k) (HE.o k hk) (HM.o k) (aU.o k) (HD.o z k) (HD.o s k) (aT.o k);have r0:=aF.o;generalize z/p^k=y at *;generalize s/p^k=t at *;generalize p^k=pk at *;by_cases hy:y=0/\t=0
   .obtain⟨rfl,rfl⟩:=hy;have HF:=Aa (aO.o rfl rfl);go_wp2_with fail
    go_ret;exact⟨Ag HF.o.symm,n,rfl⟩
   .have aA:k<m:=by
     rcases Nat.lt_or_ge k m with h|h
     .exact h
     .exact absurd ⟨aL.o h,aK.o h⟩ hy
    have aB:=Aa (HS.o aA);have aC:=aJ.o (k+1) aA;rw[aE.o]at aC;have hc:0<y∨(y=0/\0<t):=ac;have aR:=Nat.mod_lt y (show 0<p by omega);have htm:=Nat.mod_lt t (show 0<p by omega);have aS:=Aa (Gv y p ac);have aH:=Aa (Gv t p ac);have i1:(y:Int).tmod (p:Int)=((y%p:Nat):Int):=by rw[Int.tmod_eq_emod_of_nonneg ac];rfl
    have aG:(t:Int).tmod (p:Int)=((t%p:Nat):Int):=by rw[Int.tmod_eq_emod_of_nonneg ac];rfl
    obtain⟨u,hu⟩:=nA (y%p);have HU:=Aa hu;rw[hu]at aR i1 aB;clear hu;generalize t%p=v at *;have d1:=Int.emod_nonneg ((u:Int)+v) (show(p:Int)≠0 by omega);have d2:=Int.emod_lt_of_pos ((u:Int)+v) (show 0<(p:Int) by omega);have i3:((u:Int)+v).tmod (p:Int)=((u:Int)+v)%(p:Int):=Int.tmod_eq_emod_of_nonneg ac;obtain⟨D,hD⟩:=nA (((u:Int)+v)%(p:Int));have aV:=Aa hD;rw[hD]at d1 d2 i3 aB;clear hD;have d3:0<=D*(pk:Int):=Int.mul_nonneg d1 ac;have d4:D*(pk:Int)<=65536:=by
     exact zbM
    have d5:(pk:Int)*(p:Int)=((pk*p:Nat):Int):=ag;have d6:0<=(pk:Int)*(p:Int):=ac;have d7:(pk:Int)*(p:Int)<=256:=ac;have p0:¬p=0:=ac;have i2:IntKind.i64.wrap ((u:Int)+v)=(u:Int)+v:=IntWalk.i64_in _ ac;have i4:IntKind.i64.wrap (D*(pk:Int))=D*(pk:Int):=IntWalk.i64_in _ ac;have i5:IntKind.i64.wrap (C k+D*(pk:Int))=C k+D*(pk:Int):=IntWalk.i64_in _ ac;clear HS aO aL aK hy;have D5:=Aa d5;have D8:=Aa (show(pk:Int)<(pk:Int)*(p:Int) by rw[d5];have:=Nat.mul_le_mul_left pk p2;omega);clear d5;rcases hc with hc|⟨hc1,hc2⟩
    .have hb1:decide (0<(y:Int))=true:=by simpa using hc
     go_wp2_with fail
     go_quiet (fail)
     clear i1 aG i2 i3 i4 i5;go_wp2_with fail
     go_roundw
     case rel=>exact⟨k+1,_,aA,by rw[aQ.o,<-aS.o],by rw[aP.o,<-aH.o],by rw[aB.o],by rw[aE.o,D5.o],rfl⟩
     case measure=>have h1:=D8.o;simp[intOf];omega
    .have hb2:decide (0<(t:Int))=true:=by simpa using hc2
     subst hc1;obtain rfl:u=0:=by rw[<-HU.o,Nat.zero_mod]
     have i6:IntKind.i64.wrap (v:Int)=(v:Int):=IntWalk.i64_in _ ac;have i7:(v:Int).tmod (p:Int)=D:=by rw[Int.tmod_eq_emod_of_nonneg ac,<-aV.o];simp
     have HZ:=Aa (show(0:Nat)/p=0 from Nat.zero_div p);clear i1 i2 i3;go_wp2_with fail
     go_quiet (fail)
     clear aG i4 i5 i6 i7;go_wp2_with fail
     go_roundw
     case rel=>exact⟨k+1,_,aA,by rw[aQ.o,HZ.o];rfl,by rw[aP.o,<-aH.o],by rw[aB.o],by rw[aE.o,D5.o],rfl⟩
     case measure=>have h1:=D8.o;simp[intOf];omega
end
end Go.Proofs.YtehieobniamagaaGreat
