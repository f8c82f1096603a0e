/- As XRgn, for regions with guarded operations: an operation that is not wanted lays undef. -/
import Derived.Test.YtehieobniamagaaGreatZs03
namespace Go.Proofs.YtehieobniamagaaGreat
open Go.RowKit
set_option linter.all false
set_option maxRecDepth 100000
set_option maxRecDepth 100000
set_option maxHeartbeats 4000000
def Rn(n:Nat):List Oper->Nat->List Nat->Bool
 | [],_,_=>true
 | o :: l,k,seen=>(o.after.all fun e=> !Region.binds .any e||decide (e.on<k))&&(match o.dst with
  | none=>Rn n l (k+1) seen
  | some d=>decide (d<n) && !seen.contains d&&Rn n l (k+1) (d :: seen))
structure TW(ops:Array Oper)(n:Nat):Prop where
 wait:∀(i:Nat) (o:Oper),ops[i]?=some o->∀e∈o.after,Region.binds .any e=true->(e:Edge).on<i
 lt:∀(i:Nat) (o:Oper) (d:Nat),ops[i]?=some o->o.dst=some d->d<n
 inj:∀(i j:Nat) (oi oj:Oper) (d:Nat),ops[i]?=some oi->ops[j]?=some oj->oi.dst=some d->oj.dst=some d->i=j
theorem I8(n:Nat):∀(l:List Oper) (k:Nat) (aA:List Nat),Rn n l k aA=true->∀(i:Nat) (o:Oper),l[i]?=some o->
  (∀e∈o.after,Region.binds .any e=true->e.on<k+i)/\∀d,o.dst=some d->d<n/\d ∉ aA/\∀j oj,j<i->l[j]?=some oj->oj.dst≠some d
 | [],_,_,_,i,o,h=>by simp at h
 | o :: l,k,aA,h,i,o',hi=>by
  unfold Rn at h;rw[Bool.and_eq_true]at h;obtain⟨h2,h3⟩:=h
  cases i with
  | zero=>
   simp at hi;subst hi;refine⟨fun e he hb=>?_,fun d hd=>?_⟩
   .rw[Array.all_eq_true_iff_forall_mem]at h2;have:=h2 e he;rw[hb]at this;simpa using this
   .exact zaB
  | succ i=>
   simp at hi
   cases hdo:o.dst with
   | none=>
    rw[hdo]at h3;obtain⟨b,c⟩:=I8 n l (k+1) aA h3 i o' hi;refine⟨fun e he hb=>by have:=b e he hb;omega,fun d hd=>?_⟩;exact zbz
   | some d0=>
    rw[hdo]at h3;simp only[Bool.and_eq_true]at h3;obtain⟨b,c⟩:=I8 n l (k+1) (d0 :: aA) h3.2 i o' hi;refine⟨fun e he hb=>by have:=b e he hb;omega,fun d hd=>?_⟩;exact zbg
theorem rgn_ow{l:List Oper}{n:Nat}(h:Rn n l 0 []=true):TW l.toArray n:=by
 have aA:=I8 n l 0 [] h;have hg:∀(i:Nat) o,l.toArray[i]?=some o->l[i]?=some o:=fun i o h=>ay;refine⟨fun i o ho e he hb=>by have:=(aA i o (hg i o ho)).1 e he hb;omega,fun i o d ho hd=>((aA i o (hg i o ho)).2 d hd).1,fun i j oi oj d hi hj h1 h2=>?_⟩;rcases Nat.lt_trichotomy i j with e|e|e
 .exact absurd h1 (((aA j oj (hg j oj hj)).2 d h2).2.2 i oi e (hg i oi hi))
 .exact e
 .exact absurd h2 (((aA i oi (hg i oi hi)).2 d h1).2.2 j oj e (hg j oj hj))
section
variable {ops:Array Oper} {a0 a a':Act} {L L':Nat->Bool} {vals:Nat->Value}
theorem F7.stepW(H:TW ops a0.tmps.size)(h:F7 ops a0 L vals a){i:Nat}{o:Oper}(ho:ops[i]?=some o)(v:Value):F7 ops a0 (Az L i true) (Az vals i v) (a.put o.dst v):=by
 exact zbd
end
theorem F7.putKW{l0:List Oper}{a0:Act}(H:TW l0.toArray a0.tmps.size)(vals:Nat->Value):∀(l aA:List Oper) (a:Act),aA++l=l0->F7 l0.toArray a0 (fun i=>decide (i<aA.length)) vals a->F7 l0.toArray a0 (fun i=>decide (i<l0.length)) vals (Go.Proofs.YtehieobniamagaaGreat.Ci l vals aA.length a)
 | [],aA,a,he,h=>by
  rw[List.append_nil]at he;subst he;exact h
 | o :: l,aA,a,he,h=>by
  have ho:l0.toArray[aA.length]?=some o:=by rw[<-he];simp
  have h1:=h.stepW H ho (vals aA.length);have e1:Az (fun i=>decide (i<aA.length)) aA.length true=fun i=>decide (i<(aA ++ [o]).length):=by
   exact zcu
  have e2:Az vals aA.length (vals aA.length)=vals:=by
   funext i;by_cases e:i=aA.length
   .subst e;rw[Ab]
   .rw[Ad _ _ e]
  rw[e1,e2]at h1;have h2:=F7.putKW H vals l (aA ++ [o]) (a.put o.dst (vals aA.length)) (by rw[<-he];simp) h1;rw[List.length_append]at h2;exact h2
section
variable {P:Program} {Q:Exit->Act->World->Prop} {J:(Nat->Bool)->(Nat->Value)->World->Prop} {a0:Act}
def OpSw(P:Program)(Q:Exit->Act->World->Prop)(J:(Nat->Bool)->(Nat->Value)->World->Prop)(ops:Array Oper)(a0:Act)(i:Nat)(o:Oper):Prop:=
 ∀L vals a w,F7 ops a0 L vals a->J L vals w->L i=false->(∀e∈o.after,Region.binds .any e=true->L e.on=true)->(∀(k:Nat) (o':Oper),L k=true->ops[k]?=some o'->∀e∈o'.after,Region.binds .any e=true->L e.on=true)->
  ∀K:Act->World->Prop,(∀v w',J (Az L i true) (Az vals i v) w'->K (a.put o.dst v) w')->if Region.wanted o (yielded ops a.tmps)=true then o.wp P a w K Q else K (a.put o.dst undef) w
theorem VM{l:List Oper}(H:TW l.toArray a0.tmps.size)(hs:AJ (OpSw P Q J l.toArray a0) l 0)
  (he:∀L vals w,(∀i,i<l.length->L i=true)->J L vals w->Q .normal (Ci l vals 0 a0) w):
  ∀fuel (listed:Array Bool) a w vals,listed.size=l.length->(List.range l.length).countP (fun i=> !listed.getD i false)<=fuel->(∀(k:Nat) (o':Oper),listed.getD k false=true->l.toArray[k]?=some o'->∀e∈o'.after,Region.binds .any e=true->listed.getD e.on false=true)->F7 l.toArray a0 (fun i=>listed.getD i false) vals a->J (fun i=>listed.getD i false) vals w->wpAny P .any l.toArray Q fuel listed a w:=by
 have aG:∀(listed:Array Bool) a w vals,listed.size=l.length->(∀i,i<l.length->listed.getD i false=true)->F7 l.toArray a0 (fun i=>listed.getD i false) vals a->J (fun i=>listed.getD i false) vals w->Q .normal a w:=fun listed a w vals aC aB hf hj=>by
  have h1:=he _ vals w aB hj;have h2:=F7.putKW H vals l [] a0 rfl ((F7.init l.toArray a0 vals).congr fun i hi=>ag);have h3:=hf.uniq (h2.congr fun i hi=>by
   have aK:i<l.length:=by simpa using hi
   simp only[aK,decide_true];exact(aB i aK).symm)
  rw[h3];exact h1
 have aB:∀(listed:Array Bool),listed.size=l.length->Region.ready .any l.toArray listed= []->∀i,i<l.length->listed.getD i false=true:=fun listed aC hr i=>by
  induction i using Nat.strongRecOn with
  | ind i ih=>
   intro hi
   cases hb:listed.getD i false with
   | true=>rfl
   | false=>
    exfalso;have ho:l.toArray[i]?=some l[i]:=by simp[hi]
    have hm:i∈Region.ready .any l.toArray listed:=mem_ready.2 ⟨by
     have aD:i<listed.size:=ac;simp[Array.getD,aD]at hb ⊢;exact hb,l[i],ho,fun e aO hb=>by
     have hw:=H.wait i _ ho e aO hb;exact ih e.on hw ac⟩
    rw[hr]at hm;cases hm
 intro fuel
 induction fuel with
 | zero=>
  intro listed a w vals aC hc aJ hf hj;have ha:∀i,i<l.length->listed.getD i false=true:=fun i hi=>by
   exact zbE
  refine⟨?_,aG listed a w vals aC ha hf hj⟩
  cases hr:Region.ready .any l.toArray listed with
  | nil=>rfl
  | cons x t=>
   exfalso;have hm:x∈Region.ready .any l.toArray listed:=by rw[hr];exact List.mem_cons_self ..
   obtain⟨h1,o,h2,_⟩:=mem_ready.1 hm;have hx:x<l.length:=bm;have h3:=ha x hx;have aD:x<listed.size:=ac;simp[Array.getD,aD]at h1 h3;rw[h1]at h3;cases h3
 | succ fuel ih=>
  intro listed a w vals aC hc aJ hf hj;refine⟨fun hr=>aG listed a w vals aC (aB listed aC hr) hf hj,fun i hi=>?_⟩;obtain⟨h1,o,h2,h3⟩:=mem_ready.1 hi;have aN:i<l.length:=bm;have aD:i<listed.size:=ac;have aL:listed.getD i false=false:=by
   simp[Array.getD,aD]at h1 ⊢;exact h1
  have aR:l[i]?=some o:=du;have BC:OpSw P Q J l.toArray a0 (0+i) o:=hs.get aR;rw[Nat.zero_add]at BC;have aH:(fun j=>(listed.setIfInBounds i true).getD j false)=Az (fun j=>listed.getD j false) i true:=by
   funext j;by_cases e:j=i
   .subst e;rw[Ab];simp[Array.getD,aD]
   .exact zaD
  have aI:∀(k:Nat) (o':Oper),(listed.setIfInBounds i true).getD k false=true->l.toArray[k]?=some o'->∀e∈o'.after,Region.binds .any e=true->(listed.setIfInBounds i true).getD e.on false=true:=fun k o' hk aE e he hb=>by
   have e1:=congrFun aH k;have e2:=congrFun aH e.on;rw[e1]at hk;rw[e2];by_cases h0:e.on=i
   .rw[h0,Ab]
   .rw[Ad _ _ h0];by_cases h4:k=i
    .subst h4;rw[h2]at aE;injection aE with aE;subst aE;exact h3 e he hb
    .rw[Ad _ _ h4]at hk;exact aJ k o' hk aE e he hb
  have aF:∀v w',J (Az (fun j=>listed.getD j false) i true) (Az vals i v) w'->wpAny P .any l.toArray Q fuel (listed.setIfInBounds i true) (a.put o.dst v) w':=fun v w' aM=>by
   refine ih _ _ _ (Az vals i v) (by rw[Array.size_setIfInBounds];exact aC) ?_ aI (by rw[aH];exact hf.stepW H h2 v) (by rw[aH];exact aM);have aQ:=OR (fun j=>listed.getD j false) i aL l.length;rw[if_pos aN]at aQ;have aP:(List.range l.length).countP (fun j=> !(listed.setIfInBounds i true).getD j false)=(List.range l.length).countP (fun j=> !(Az (fun j=>listed.getD j false) i true) j):=by
    congr 1
    funext j;rw[<-congrFun aH j]
   rw[aP];omega
  have aA:=BC _ vals a w hf hj aL (fun e he hb=>h3 e he hb) aJ _ aF;unfold wpOp;rw[h2];by_cases hw:Region.wanted o (yielded l.toArray a.tmps)=true
  .rw[if_pos hw]at aA;simp only[hw,if_true];exact .inl aA
  .rw[if_neg hw]at aA;simp only[hw];exact aA
theorem Ks{id:Nat}{l:List Oper}{w:World}(J:(Nat->Bool)->(Nat->Value)->World->Prop)(hm:P.follows .mixedOrders=true)(hB:Rn a0.tmps.size l 0 []=true)(h0:J (fun _=>false) (fun _=>undef) w.drew)
  (hs:AJ (OpSw P Q J l.toArray a0) l 0) (he:∀L vals w,(∀i,i<l.length->L i=true)->J L vals w->Q .normal (Ci l vals 0 a0) w):(Code.region id l.toArray true).wp P Q a0 w:=by
 refine wp_region_any hm ?_;have hL:(fun i=>(Array.replicate l.toArray.size false).getD i false)=fun _=>false:=by
  exact zbA
 refine VM (rgn_ow hB) hs he _ _ _ _ (fun _=>undef) ag (Nat.le_trans List.countP_le_length ag) (fun k o' hk=>by have:=congrFun hL k;rw[this]at hk;cases hk) ?_ ?_
 .rw[hL];exact F7.init _ _ _
 .rw[hL];exact h0
def Ib(l:List Oper)(pv:Nat->Value)(o:Oper):Bool:=match o.guard with
 | none=>true
 | some (j,want)=>match (l[j]?).bind (·.dst) with
  | none=>false
  | some _=>match pv j with
   | .bool b=>b==want
   | _=>false
def grdK(l:List Oper):Bool:=l.all fun o=>match o.guard with
 | none=>true
 | some (j,_)=>o.after.any fun e=>e.on==j&&Region.binds .any e
theorem Vk{l:List Oper}{L:Nat->Bool}{pv vals:Nat->Value}{a:Act}(hf:F7 l.toArray a0 L vals a)(hv:∀k,L k=true->vals k=pv k){o:Oper}(hg:∀j b,o.guard=some (j,b)->L j=true):
  Region.wanted o (yielded l.toArray a.tmps)=Ib l pv o:=by
 unfold Region.wanted Ib
 cases hgo:o.guard with
 | none=>rfl
 | some jw=>
  obtain⟨j,aA⟩:=jw;have hL:=hg j aA hgo;simp only[yielded,List.getElem?_toArray]
  cases hlj:l[j]? with
  | none=>simp
  | some oj=>
   cases hdj:oj.dst with
   | none=>simp[hdj]
   | some t=>
    have h1:=hf.got j oj t hL (by simpa using hlj) hdj;rw[hv j hL]at h1;simp only[Option.bind_some,hdj,h1];cases pv j <;> simp
def Bu(P:Program)(Q:Exit->Act->World->Prop)(l:List Oper)(a0:Act)(pv:Nat->Value)(w:World)(i:Nat)(o:Oper):Prop:=
 if Ib l pv o=true then ∀(L:Nat->Bool) (a:Act) (w':World),(∀k t o',L k=true->l[k]?=some o'->o'.dst=some t->a.tmps[t]?=some (pv k))->(∀t,(l.all fun o=>o.dst !=some t)=true->a.tmps[t]?=a0.tmps[t]?)->(∀e∈o.after,Region.binds .any e=true->L e.on=true)->Ex w w'->
  ∀K:Act->World->Prop,(∀w'',Ex w' w''->K (a.put o.dst (pv i)) w'')->o.wp P a w' K Q
 else pv i=undef
theorem Bu.on{l:List Oper}{pv:Nat->Value}{w:World}{i:Nat}{o:Oper}(hw:Ib l pv o=true)(h:∀(L:Nat->Bool) (a:Act) (w':World),(∀k t o',L k=true->l[k]?=some o'->o'.dst=some t->a.tmps[t]?=some (pv k))->(∀t,(l.all fun o=>o.dst !=some t)=true->a.tmps[t]?=a0.tmps[t]?)->(∀e∈o.after,Region.binds .any e=true->L e.on=true)->Ex w w'->
  ∀K:Act->World->Prop,(∀w'',Ex w' w''->K (a.put o.dst (pv i)) w'')->o.wp P a w' K Q):Bu P Q l a0 pv w i o:=by
 unfold Bu;rw[if_pos hw];exact h
theorem Bu.off{l:List Oper}{pv:Nat->Value}{w:World}{i:Nat}{o:Oper}(hw:Ib l pv o=false)(h:pv i=undef):Bu P Q l a0 pv w i o:=by
 unfold Bu;rw[if_neg (by rw[hw];decide)];exact h
theorem BL{id:Nat}{l:List Oper}{w:World}(pv:Nat->Value)(hm:P.follows .mixedOrders=true)(hB:Rn a0.tmps.size l 0 []=true)(hG:grdK l=true)
  (hs:AJ (Bu P Q l a0 pv w) l 0) (he:∀w',Ex w w'->Q .normal (Ci l pv 0 a0) w'):(Code.region id l.toArray true).wp P Q a0 w:=by
 refine Ks (fun L V w'=>(∀k,L k=true->V k=pv k)/\Ex w w') hm hB ⟨fun k h=>bi,(Ex.refl w).drew⟩ ?_ ?_
 .have aD:∀(l':List Oper) (k0:Nat),(∀i o,l'[i]?=some o->l[k0+i]?=some o)->AJ (Bu P Q l a0 pv w) l' k0->AJ (OpSw P Q (fun L V w'=>(∀k,L k=true->V k=pv k)/\Ex w w') l.toArray a0) l' k0:=fun l'=>by
   induction l' with
   | nil=>intro _ _ _;trivial
   | cons o l' ih=>
    intro k0 aA h;refine⟨?_,ih (k0+1) (fun i o' hi=>by rw[show k0+1+i=k0+(i+1) from ac];exact aA (i+1) o' hi) h.2⟩;intro L V a w' hf hj hi hd hcl K hK;have aE:l[k0]?=some o:=by have:=aA 0 o rfl;simpa using this
    have hg:∀j b,o.guard=some (j,b)->L j=true:=fun j b aG=>by
     have h1:=List.all_eq_true.1 hG o (List.mem_of_getElem? aE);rw[aG]at h1;simp only[Array.any_eq_true']at h1;obtain⟨e,he,h2⟩:=h1;rw[Bool.and_eq_true,beq_iff_eq]at h2;rw[<-h2.1];exact hd e he h2.2
    rw[Vk hf hj.1 hg];have h1:=h.1;unfold Bu at h1;have aB:∀v w'',v=pv k0->Ex w w''->K (a.put o.dst v) w'':=fun v w'' hv hx=>hK v w'' ⟨fun k hk=>by
     by_cases e:k=k0
     .subst e;rw[Ab];exact hv
     .rw[Ad _ _ e]at hk ⊢;exact hj.1 k hk,hx⟩
    by_cases hw:Ib l pv o=true
    .rw[if_pos hw]at h1 ⊢;exact h1 L a w' (fun k t o' hk aF aH=>by rw[<-hj.1 k hk];exact hf.in_ k t hk aF aH) (fun t ht=>hf.out_ t ht) hd hj.2 K fun w'' hx=>aB _ _ rfl (hj.2.trans hx)
    .rw[if_neg hw]at h1 ⊢;exact aB _ _ h1.symm hj.2
  exact aD l 0 (fun i o h=>by rw[Nat.zero_add];exact h) hs
 .intro L V w' aC hj;have hp:Ci l V 0 a0=Ci l pv 0 a0:=ED l 0 V pv a0 fun i o hi hd=>by
   rw[Nat.zero_add];exact hj.1 i (aC i (List.getElem?_eq_some_iff.1 hi).1)
  rw[hp];exact he w' hj.2
end
def Mn(ml:List Int):Vc:=fun j=>if j<ml.length then ml.getD j 0 else if j=ml.length then 1 else 0
def Qy(p d:Nat)(low:Vc)(ml:List Int):Bool:=(List.range d).all fun j=>ap d low (ml.length+1) (Mn ml) Av j%(p:Int)==0
def RdE(p d:Nat)(low:Vc)(i j:Nat)(c0 c:Vc):Prop:=Ct p (fun t=>ap d low i c Av t) (fun t=>ap d low i c0 Av t-c0 i*Dt d low (i-d) (ap d low j low Av) t)
theorem dv_end{p d:Nat}{low:Vc}{ml:List Int}{c:Vc}(hc:∀j,0<=c j/\c j<p)(h:Ct p (ap d low d c Av) (ap d low (ml.length+1) (Mn ml) Av)):
  Qy p d low ml=(List.range d).all fun j=>c j==0:=by
 unfold Qy;rw[Bool.eq_iff_iff,List.all_eq_true,List.all_eq_true];have aA:∀j,j<d->ap d low (ml.length+1) (Mn ml) Av j%(p:Int)=c j:=fun j hj=>by
  rw[<-h j,L5 d c (Nat.le_refl _)];dsimp only;rw[if_pos hj];exact Int.emod_eq_of_lt (hc j).1 (hc j).2
 constructor
 .intro h1 j hj;have:=h1 j hj
  rwa[aA j (List.mem_range.1 hj)]at this
 .intro h1 j hj;have:=h1 j hj
  rwa[aA j (List.mem_range.1 hj)]
theorem Wn(ml:List Int):Ao ml ++ [.int .i64 1]=vs (ml.length+1) (iv (Mn ml)):=by
 apply List.ext_getElem?;intro j;by_cases h1:j<ml.length
 .rw[List.getElem?_append_left (by rw[Bc];exact h1),Dk ac];unfold iv Mn;rw[if_pos h1];simp[Ao,h1,List.getD_eq_getElem?_getD]
 .rw[List.getElem?_append_right (by rw[Bc];omega),Bc];by_cases h2:j=ml.length
  .subst h2;rw[Dk ac];unfold iv Mn;simp
  .rw[show(vs (ml.length+1) (iv (Mn ml)))[j]?=none by rw[List.getElem?_eq_none_iff,Bm];omega];rw[List.getElem?_eq_none_iff];simp;omega
theorem zdc{P:Prop}(h:P:=by
 intro u hu;obtain⟨z,_,rfl⟩:=List.mem_map.1 hu;rfl):P:=h
theorem zde{P:Prop}(h:P:=by
 go_wp2_with fail
 go_ret;exact⟨Ap HF.o.symm,hx⟩):P:=h
theorem QE(p d:Nat)(low:Vc)(ml:List Int)(lv mv:Value)(w:World)(hp:2<=p)(hp':p<=256)(hd:1<=d)(hdm:d<=ml.length)(hm8:ml.length<=8)
  (bF:Al w lv (il d low)) (bG:∀j,0<=low j/\low j<p) (bC:Al w mv ml) (bD:∀x∈ml,0<=x/\x<p):
  Calls Tryz.prog 170 #[lv,mv,p] w fun r w'=>r= .returned (.bool (Qy p d low ml))/\Ex w w':=by
 obtain⟨la,lc,rfl,l1,l2,l3⟩:=bF.open;rw[An]at *;obtain⟨lb,lo,rfl,l4⟩:=l3 ac;have L4:=Aa (fun j (hj:j<d)=>l4 j _ (AQ hj low));have cA:=Aa bC;have aY:=Aa (show ∀j,0<=Mn ml j/\Mn ml j<p from fun j=>by
  unfold Mn;split
  .rename_i h;rw[List.getD_eq_getElem?_getD,List.getElem?_eq_getElem h];exact bD _ (List.getElem_mem h)
  .split <;> omega)
 have bP:=Aa (fun c h1 h2=>dv_end (p:=p) (d:=d) (low:=low) (ml:=ml) (c:=c) h1 h2);have cB:=Aa (Wn ml);have cC:=Aa bG;have bE:∀u∈Ao ml,u.oneCell'=true:=by
  exact zdc
 have bZ:=Aa bE;unfold maxLen at l2;clear bF bC bD l3 l4 bG bE;go_enter Tryz.func170,Tryz.ntmps170
 go_wp2_with (at_builtin;refine Bl _ rfl _ _ 22 rfl w.heap.size 3 (.int .i64 0) 1 8 Tryz.underlying22 AC rfl ae _ 0 [] rfl (Bw w 3) mv ml.length (Ao ml) rfl (cA.o.ex ((Ex.refl w).alloc _)) bZ.o ai ac ag ?_)
 intro v1 w1 aC bH bJ;have aM:Ex w w1:=Ex.grown ((Ex.refl w).alloc _) (Bw w 3) (Nat.le_refl _) bH;obtain⟨va,vc,rfl⟩:=Ae aC;have bK:=Aa aM;have bN:=Aa aC;have bQ:=Aa aM.size;clear bH bJ aC aM;go_wp2_with (at_builtin;refine Am _ rfl _ _ 22 rfl w.heap.size 3 (.int .i64 0) 1 8 Tryz.underlying22 AC rfl ae _ ml.length _ rfl bN.o [.int .i64 1] 3 _ rfl ag rfl aj ai ac bQ.o ?_)
 intro v2 w2 aF;have aB:=aF.own;rw[cB.o]at aB;obtain⟨g,cap,rfl,aD⟩:=Kd aB ac;have aZ:=aF.ex bK.o (Nat.le_refl _);have aQ:=aD.caps;obtain⟨k1,k2⟩:=aQ;unfold maxLen at k2;obtain⟨bM,aJ,aU,aV,aW,bW⟩:=To aD (show ∀j,ml.length+1<=j->j<ml.length+1->Mn ml j=0 from fun j a b=>ac) (show ∀(a:Nat) (c:Nat->Int),RdE p d low a 0 c c from fun a c=>M4 (m:=d) (low:=low) p c) (show ∀(a j:Nat) (c c0:Nat->Int),d<=a->j<d->RdE p d low a j c0 c->c a=c0 a->RdE p d low a (j+1) c0 (Ih c (a-d+j) ((c (a-d+j)+((p:Int)-c a)*low j)%(p:Int))) from fun a j c c0 h1 h2 h3 h4=>PF (m:=d) (low:=low) (T:=c0) h1 h2 h3 h4) (show ∀(a:Nat) (c c0:Nat->Int) (T:Vc),d<=a->Ct p (ap d low (a+1) c0 Av) T->RdE p d low a d c0 c->Ct p (ap d low a c Av) T from fun a c c0 T h1 h2 h3=>SX (m:=d) (low:=low) hd h1 h2 h3) (show ∀(a:Nat) (c:Nat->Int) v,ap d low a (Ih c a v) Av=ap d low a c Av from fun a c v=>Nt (Nat.le_refl _));obtain⟨T,aR⟩:=nA (ap d low (ml.length+1) (Mn ml) Av);rw[aR]at bP;have bO:=Aa (show Ct p (ap d low (ml.length+1) (Mn ml) Av) T by rw[aR];exact Ct.refl _ _);clear aR;clear aF aB aD bK bN bQ;go_wp2_with fail
 go_loopw [9,10,11] (fun i' _ _ wr=>∃(a:Nat) (c:Nat->Int),d<=a/\a<=ml.length+1/\i'= .int .i64 ((a:Int)-1)/\Hia (A9 wr w.heap.size 3 g (ml.length+1) cap (iv c))/\Hia (∀j,0<=c j/\c j<p)/\Hia (Ct p (ap d low a c Av) T)/\Hia (∀j,a<=j->j<ml.length+1->c j=0)/\Ex w wr) (fun i' _ _ _=>(intOf i'+1).toNat)
 case atStart=>exact⟨ml.length+1,Mn ml,ac,ac,by go_num,bM,aY,bO,aJ,aZ⟩
 case round=>
  clear bM bO aJ aZ;obtain⟨a,c,bJ,ha2,rfl,aA,aP,hT,hz,hx⟩:=hrel;by_cases hai:d<a
  .obtain⟨b,rfl⟩:∃b,a=b+1:=⟨a-1,ac⟩;have eb:(((b+1:Nat)):Int)-1=b:=by omega
   rw[eb];have aO:d<=b:=ac;have hdb':(d:Int)<=(b:Int):=ac;have bI:b<ml.length+1:=ac;have aN:wr.cell? (g,b)=some (.int .i64 (c b)):=aA.o.cell bI;clear eb hai;obtain⟨wo,rfl⟩:∃wo:World,wo=wr:=⟨_,rfl⟩;have bL:=Aa (aU.o b c);go_wp2_with fail
   clear aN
   go_loopw [11] (fun j' wr=>∃(j:Nat) (c':Nat->Int),j<=d/\j'= .int .i64 j/\Hia (A9 wr w.heap.size 3 g (ml.length+1) cap (iv c'))/\Hia (∀j,0<=c' j/\c' j<p)/\Hia (RdE p d low b j c c')/\Hia (∀l,b<=l->c' l=c l)/\Ex w wr) (fun j' _=>d-(intOf j').toNat)
   case atStart=>exact⟨0,c,ac,rfl,aA,aP,bL,Aa (fun l _=>rfl),hx⟩
   case round=>
    clear aA hx bL;obtain⟨j,c',hj,rfl,aA,aE,bB,aL,hx⟩:=hrel;by_cases hlj:j<d
    .have hlw:=hx.cell (L4.o j hlj);have aG:=Aa (aV.o b j c' c aO hlj bB.o (aL.o b (Nat.le_refl _)));have bT:b-d+j<ml.length+1:=by omega
     have bS:b-d+j<b:=ac;have hvj:wr.cell? (g,b-d+j)=some (.int .i64 (c' (b-d+j))):=aA.o.cell bT;have bR:=aA.o.frz (b-d+j);have aH:=aL.o b (Nat.le_refl _);rw[aH]at aG;obtain⟨u1,u2⟩:=aP.o b;obtain⟨v1,v2⟩:=aE.o (b-d+j);obtain⟨q1,q2⟩:=cC.o j;obtain⟨D,hD⟩:=nA ((c' (b-d+j)+((p:Int)-c b)*low j)%(p:Int));have bV:0<=D/\D<p:=bu;rw[hD]at aG;have aT:=Aa (aA.o.set (b-d+j) (.int .i64 D));have aS:=Aa (aA.o.exSet (Nat.le_refl _) hx (b-d+j) (.int .i64 D));have aX:=Aa (show ∀l,0<=Az c' (b-d+j) D l/\Az c' (b-d+j) D l<p from fun l=>by
      unfold Az;split
      .exact bV
      .exact aE.o l)
     have cD:=Aa (show ∀l,b<=l->Az c' (b-d+j) D l=c l from fun l hl=>by rw[Ad _ _ ac];exact aL.o l hl);generalize low j=lj at *;generalize c b=cb at *;have e3:0<=((p:Int)-cb)*lj:=Int.mul_nonneg ac q1;have e4:((p:Int)-cb)*lj<=65536:=by
      have:=Int.mul_le_mul (show(p:Int)-cb<=256 by omega) (show lj<=256 by omega) q1 ac;omega
     have i1:IntKind.i64.wrap ((b:Int)-d)=(b:Int)-d:=IntWalk.i64_in _ ac;have i2:IntKind.i64.wrap ((b:Int)-d+j)=(b:Int)-d+j:=IntWalk.i64_in _ ac;have i3:IntKind.i64.wrap ((p:Int)-cb)=(p:Int)-cb:=IntWalk.i64_in _ ac;have i4:IntKind.i64.wrap (((p:Int)-cb)*lj)=((p:Int)-cb)*lj:=IntWalk.i64_in _ ac;have i5:IntKind.i64.wrap (c' (b-d+j)+((p:Int)-cb)*lj)=c' (b-d+j)+((p:Int)-cb)*lj:=IntWalk.i64_in _ ac;have i6:(c' (b-d+j)+((p:Int)-cb)*lj).tmod (p:Int)=D:=dj;have i7:((b:Int)-d+j).toNat=b-d+j:=ac;have i8:0<=(b:Int)-d+j:=ac;have i9:(b:Int)-d+j<(ml.length:Int)+1:=ac;have p0:¬p=0:=ac;clear hD bS aH;go_wp2_with fail
     go_still_tail 26,ah
     change wpList _ _ _ _ _ wr.drew
     go_wp2_with fail
     go_roundw
     case rel=>exact⟨j+1,Az c' (b-d+j) D,ac,by go_num,Aa (by have:=aT.o.drew;rwa[CC]at this),aX,aG,cD,aS.o.drew⟩
     case measure=>simp[intOf];omega
    .obtain rfl:j=d:=by omega
     have bY:=Aa (aW.o b c' c _ aO hT.o bB.o);have bR:=aA.o.frz b;have hvb:=aA.o.cell bI;have aT:=Aa (aA.o.set b (.int .i64 0));have aS:=Aa (aA.o.exSet (Nat.le_refl _) hx b (.int .i64 0));have aX:=Aa (show ∀l,0<=Az c' b 0 l/\Az c' b 0 l<p from fun l=>by
      unfold Az;split
      .omega
      .exact aE.o l)
     have bX:=Aa (show Ct p (ap j low b (Az c' b 0) Av) T from by
      have e:=bW.o b c' 0;show Ct p (ap j low b (Ih c' b 0) Av) T
      rw[e];exact bY.o)
     have HZ:=Aa (show ∀l,b<=l->l<ml.length+1->Az c' b 0 l=0 from fun l h1 h2=>by
      by_cases e:l=b
      .subst e;exact Ab _ _ _
      .rw[Ad _ _ e,aL.o l h1];exact hz.o l ac h2)
     go_wp2_with fail
     go_roundw
     case rel=>exact⟨b,Az c' b 0,aO,ac,rfl,Aa (by have:=aT.o;rwa[CC]at this),aX,bX,HZ,aS.o⟩
     case measure=>simp[intOf]
  .obtain rfl:a=d:=by omega
   have aK:=Aa (bP.o c aP.o hT.o);go_wp2_with fail
   go_loopw [12] (fun i' wr=>∃i:Nat,i<=ml.length+1/\i'= .int .i64 i/\Hia (∀j,j<i->c j=0)/\Hia (A9 wr w.heap.size 3 g (ml.length+1) cap (iv c))/\Ex w wr) (fun i' _=>ml.length+1-(intOf i').toNat)
   case atStart=>exact⟨0,ac,rfl,Aa (fun j h=>ac),aA,hx⟩
   case round=>
    clear aA hx;obtain⟨i,hi,rfl,aI,aA,hx⟩:=hrel;by_cases hlt:i<ml.length+1
    .have bA:wr.cell? (g,i)=some (.int .i64 (c i)):=aA.o.cell hlt;by_cases h0:c i=0
     .have hvi':wr.cell? (g,i)=some (.int .i64 0):=by rw[bA,h0]
      have HA:=Aa (show ∀j,j<i+1->c j=0 from fun j hj=>by
       by_cases e:j=i
       .subst e;exact h0
       .exact aI.o j ac)
      clear bA h0;go_wp2_with fail
      go_roundw
      case rel=>exact⟨i+1,ac,by go_num,HA,aA,hx⟩
      case measure=>simp[intOf];omega
     .have hb:((c i)==0)=false:=by simpa using h0
      have bU:i<a:=by
       rcases Nat.lt_or_ge i a with e|e
       .exact e
       .exact absurd (hz.o i e hlt) h0
      have HF:=Aa (show Qy p a low ml=false by
       rw[aK.o,List.all_eq_false];exact⟨i,List.mem_range.2 bU,by simpa using h0⟩)
      clear h0;generalize c i=ci at *;exact zde
    .have HF:=Aa (show Qy p a low ml=true by
      rw[aK.o,List.all_eq_true];intro j hj;have:=aI.o j (by have:=List.mem_range.1 hj;omega);simp[this])
     exact zde
def Yd(p:Nat)(ml:List Int):Bool:=(List.range (ml.length/2)).all fun d=>(List.range (p^(d+1))).all fun v=> !Qy p (d+1) (AK p (d+1) v) ml
theorem WL{p:Nat}{ml:List Int}{d v:Nat}(h1:2*(d+1)<=ml.length)(h2:v<p^(d+1))(h3:Qy p (d+1) (AK p (d+1) v) ml=true):Yd p ml=false:=by
 unfold Yd;rw[List.all_eq_false];refine⟨d,List.mem_range.2 ac,?_⟩;rw[Bool.not_eq_true,List.all_eq_false];exact⟨v,List.mem_range.2 h2,by simp[h3]⟩
theorem Tj{p:Nat}{ml:List Int}(h:∀d v,2*(d+1)<=ml.length->v<p^(d+1)->Qy p (d+1) (AK p (d+1) v) ml=false):Yd p ml=true:=by
 unfold Yd;rw[List.all_eq_true];intro d hd;rw[List.all_eq_true];intro v hv;rw[h d v (by have:=List.mem_range.1 hd;omega) (List.mem_range.1 hv)];rfl
theorem J3(p:Nat)(ml:List Int)(mv:Value)(w:World)(hp:2<=p)(aO:p<=256)(aP:ml.length<=8)(hq:p^ml.length<=256)(aG:Al w mv ml)(aM:∀x∈ml,0<=x/\x<p):
  Calls Tryz.prog 119 #[mv,p] w fun r w'=>r= .returned (.bool (Yd p ml))/\Ex w w':=by
 obtain⟨aV,aW,aU,aI,aN,aT⟩:=To aG (fun d v lv w' h1 h2 h3 h4=>QE p d (AK p d v) ml lv mv w' hp aO h1 h2 aP h3 (Dy ac d v) h4 aM) (fun d v h1 h2 h3=>WL (p:=p) (ml:=ml) (d:=d) (v:=v) h1 h2 h3) (fun h=>Tj (p:=p) (ml:=ml) h) (show ∀d,d<=ml.length->p^d<=256 from fun d hd=>Nat.le_trans (Nat.pow_le_pow_right ac hd) hq) (fun d=>Nat.pow_succ p d);obtain⟨ma,mc,rfl,m1,m2,m3⟩:=aG.open;unfold maxLen at m2;clear aG aM m3 hq;go_enter Tryz.func119,Tryz.ntmps119
 go_wp2_with fail
 go_loopw [5,6,7] (fun c' d' _ wr=>∃d:Nat,2*d<=ml.length/\d'= .int .i64 ((d:Int)+1)/\c'= .int .i64 ((p^d:Nat):Int)/\Hia (∀e v,e<d->v<p^(e+1)->Qy p (e+1) (AK p (e+1) v) ml=false)/\Ex w wr) (fun _ d' _ _=>10-(intOf d').toNat)
 case atStart=>exact⟨0,ac,rfl,ag,Aa (fun e v h=>ac),Ex.refl _⟩
 case round=>
  obtain⟨d,hd,rfl,rfl,aD,hx⟩:=hrel;have hpd:=aN.o d ac;have hpp:1<=p^d:=Nat.pow_pos ac;have aK:=Aa (aT.o d);by_cases hlt:2*(d+1)<=ml.length
  .have aC:=aN.o (d+1) ac;rw[aK.o]at aC;have aA:((p^d:Nat):Int)*(p:Int)=((p^d*p:Nat):Int):=by simp
   have hm1:0<=((p^d:Nat):Int)*(p:Int):=by rw[aA];omega
   have hm2:((p^d:Nat):Int)*(p:Int)<=256:=by rw[aA];omega
   obtain⟨n,hn⟩:=nA (p^d*p);rw[hn]at aA aC;have HC:=Aa aA;have aQ:2*((d:Int)+1)<=(ml.length:Int):=ac;have aJ:=Aa (show p^(d+1)=n by rw[aK.o,hn]);clear aA hn aK;generalize p^d=pd at *;obtain⟨wo,rfl⟩:∃wo:World,wo=wr:=⟨_,rfl⟩;go_wp2_with fail
   rw[HC.o]
   go_loopw [7] (fun v' wr=>∃v:Nat,v<=n/\v'= .int .i64 v/\Hia (∀u,u<v->Qy p (d+1) (AK p (d+1) u) ml=false)/\Ex w wr) (fun v' _=>n-(intOf v').toNat)
   case atStart=>exact⟨0,ac,rfl,Aa (fun u h=>ac),hx⟩
   case round=>
    clear hx;obtain⟨v,hv,rfl,aE,hx⟩:=hrel;by_cases hlv:v<n
    .have aS:=Aa (fun w'=>by
      have h:=JP v p (d+1) w' ac ac ac ac;rw[show((d+1:Nat):Int)=(d:Int)+1 by omega]at h;exact h)
     have aH:(v:Int)<(n:Int):=ac;go_wp2_with fail
     (with_reducible refine(aS.o _).mono ?_)
     rintro e w2⟨lv,rfl,⟨g,rfl,hg1,aR⟩,aF⟩;go_wp2_with fail
     refine(aW.o (d+1) v _ _ ac ac aR.isl (aV.o.ex (hx.trans aF))).mono ?_;rintro e w3⟨rfl,aL⟩;by_cases hdv:Qy p (d+1) (AK p (d+1) v) ml=true
     .have HF:=Aa (aU.o d v hlt (by rw[aJ.o];exact hlv) hdv);rw[hdv];clear hdv;go_wp2_with fail
      go_ret;exact⟨Ap HF.o.symm,(hx.trans aF).trans aL⟩
     .have aB:Qy p (d+1) (AK p (d+1) v) ml=false:=by simpa using hdv
      rw[aB];have HA:=Aa (show ∀u,u<v+1->Qy p (d+1) (AK p (d+1) u) ml=false from fun u hu=>by
       by_cases e:u=v
       .subst e;exact aB
       .exact aE.o u ac)
      clear hdv aB;go_wp2_with fail
      go_roundw
      case rel=>exact⟨v+1,ac,by go_num,HA,(hx.trans aF).trans aL⟩
      case measure=>simp[intOf];omega
    .have aH:(n:Int)<=(v:Int):=by omega
     have HA:=Aa (show ∀e u,e<d+1->u<p^(e+1)->Qy p (e+1) (AK p (e+1) u) ml=false from fun e u he hu=>by
      by_cases h:e=d
      .subst h;exact aE.o u (by rw[aJ.o]at hu;omega)
      .exact aD.o e u ac hu)
     go_wp2_with fail
     go_roundw
     case rel=>exact⟨d+1,hlt,by go_num,by rw[aJ.o],HA,hx⟩
     case measure=>simp[intOf];omega
  .have HF:=Aa (aI.o fun e v h1 h2=>aD.o e v ac h2);have aQ:¬2*((d:Int)+1)<=(ml.length:Int):=by omega
   generalize p^d=pd at *;exact zde
def Ce(p m:Int)(ml:List Int):Int:=if (KE p m ml&&(decide (m=1)||Yd p.toNat ml))=true then 0 else 1
theorem TQ{p m:Int}{ml:List Int}(h:KE p m ml=false):Ce p m ml=1:=by unfold Ce;rw[h];rfl
theorem zbc{P:Prop}(h:P:=by
 go_enter Tryz.func59,Tryz.ntmps59
 have d0:=D0.o;have d1:=D1.o;have d2:=D2.o;go_wp2_with fail
 generalize w.alloc (.cells #[pn,mn,.slice ma ml.length mc] 24)=w1 at *;clear D0 D1 D2;refine(aH.o _).mono ?_;rintro e w2⟨rfl,aA⟩;have r0:=aA.cell d0;have r1:=aA.cell d1;have r2:=aA.cell d2;go_wp2_with fail
 refine(aJ.o _).mono ?_;rintro e w3⟨rfl,rfl⟩;go_wp2_with fail
 go_ret;exact⟨Af HC.o.symm,e0.trans aA⟩):P:=h
theorem zb3{P:Prop}(h:P:=by
 go_wp2_with fail
 go_quiet (fail)
 go_wp2_with fail
 go_ret;exact⟨Af HF.o.symm,e0.trans (hx.drewN _)⟩):P:=h
theorem zcQ{P:Prop}(h:P:=by
 go_wp2_with fail
 go_ret;exact⟨Af HC.o.symm,(e0.trans hx).trans aS⟩):P:=h
theorem Hu(p m:Int)(ml:List Int)(mv:Value)(w:World)(aN:Al w mv ml):
  Calls Tryz.prog 59 #[.agg #[p,m,mv]] w fun r w'=>r= .returned (.int .i64 (Ce p m ml))/\Ex w w':=by
 obtain⟨d0,d1,d2,e0,_⟩:=AA w p m mv;have aR:=Aa (show KE p m ml=(decide (CG p m≠0)&&(Je p.toNat&&if m=1 then ml.length==0 else ml.length==m.toNat&&ml.all fun x=>decide (0<=x)&&decide (x<p))) from rfl);have aZ:=Aa aN;obtain⟨ma,mc,rfl,m1,m2,m3⟩:=(aN.ex e0).open;have M3:=Aa m3;have DV:=fun w=>DP p m (.slice ma ml.length mc) w;have aC:=Aa (fun h=>TQ (p:=p) (m:=m) (ml:=ml) h);unfold maxLen at m2;clear aN m3;have D0:=Aa d0;have D1:=Aa d1;have D2:=Aa d2;clear d0 d1 d2;by_cases ho:CG p m=0
 .have HC:=Aa (aC.o (by rw[aR.o,ho];rfl));rw[ho]at DV;have aH:=Aa DV;clear ho DV;go_enter Tryz.func59,Tryz.ntmps59
  have d0:=D0.o;have d1:=D1.o;have d2:=D2.o;go_wp2_with fail
  generalize w.alloc (.cells #[p,m,.slice ma ml.length mc] 24)=w1 at *;clear D0 D1 D2;refine(aH.o _).mono ?_;rintro e w2⟨rfl,aA⟩;have r0:=aA.cell d0;have r1:=aA.cell d1;have r2:=aA.cell d2;go_wp2_with fail
  go_ret;exact⟨Af HC.o.symm,e0.trans aA⟩
 .obtain⟨pn,mn,rfl,rfl,p2,q1,q8,qq,aT⟩:=N6 ho;have hpw:1<=pn^mn:=Nat.pow_pos ac;have aE:pn<=256:=by
   exact zck
  have hb0:(((pn^mn:Nat):Int)==0)=false:=by rw[beq_eq_false_iff_ne];omega
  have aB:=Aa (show KE pn mn ml=(Je pn&&if (mn:Int)=1 then ml.length==0 else ml.length==mn&&ml.all fun x=>decide (0<=x)&&decide (x<pn)) by
   rw[aR.o,decide_eq_true ho];simp)
  have aI:=fun w=>Rm pn w p2 aE;have HQQ:=Aa qq;have aY:=Aa (show ∀n,n=mn->pn^n<=256 from fun n h=>by rw[h];exact qq);rw[aT]at DV;have aH:=Aa DV;clear DV;generalize pn^mn=qn at *;clear ho aT aR;by_cases hpr:Je pn=true
  .rw[hpr]at aB aI;have aJ:=Aa aI;clear aI hpr;by_cases hm1:mn=1
   .have aO:((mn:Int)==1)=true:=by simp;omega
    by_cases hl:ml.length=0
    .have HC:=Aa (show Ce pn mn ml=0 by
      unfold Ce;rw[aB.o,if_pos (show(mn:Int)=1 by omega),hl,decide_eq_true (show(mn:Int)=1 by omega)];rfl)
     have aX:((ml.length:Int) !=0)=false:=by rw[bne_eq_false_iff_eq];omega
     have aQ:((ml.length:Int)==0)=true:=by rw[beq_iff_eq];omega
     clear hm1 aB hl;exact zbc
    .have HC:=Aa (aC.o (by rw[aB.o,if_pos (show(mn:Int)=1 by omega),Bool.true_and,beq_eq_false_iff_ne];exact hl));have aX:((ml.length:Int) !=0)=true:=by rw[bne_iff_ne];omega
     have aQ:((ml.length:Int)==0)=false:=by rw[beq_eq_false_iff_ne];omega
     clear hm1 aB hl;exact zbc
   .have aO:((mn:Int)==1)=false:=by simp;omega
    have HR:=Aa (show KE pn mn ml=(ml.length==mn&&ml.all fun x=>decide (0<=x)&&decide (x<pn)) by rw[aB.o,if_neg ac,Bool.true_and]);have bA:=Aa hm1;clear hm1 aB;by_cases hlen:ml.length=mn
    .have aW:((ml.length:Int)==(mn:Int))=true:=by rw[beq_iff_eq];omega
     have aV:((ml.length:Int) !=(mn:Int))=false:=by rw[bne_eq_false_iff_eq];omega
     have aU:=Aa (show KE pn mn ml=ml.all fun x=>decide (0<=x)&&decide (x<pn) by rw[HR.o,show(ml.length==mn)=true by simp[hlen],Bool.true_and]);have aD:=Aa hlen;clear hlen HR;go_enter Tryz.func59,Tryz.ntmps59
     have d0:=D0.o;have d1:=D1.o;have d2:=D2.o;go_wp2_with fail
     generalize w.alloc (.cells #[pn,mn,.slice ma ml.length mc] 24)=w1 at *;clear D0 D1 D2;refine(aH.o _).mono ?_;rintro e w2⟨rfl,aA⟩;have r0:=aA.cell d0;have r1:=aA.cell d1;have r2:=aA.cell d2;go_wp2_with fail
     refine(aJ.o _).mono ?_;rintro e w3⟨rfl,rfl⟩;go_wp2_with fail
     clear r0 r1 r2
     go_loopw [3] (fun j' wr=>∃j:Nat,j<=ml.length/\j'= .int .i64 j/\Hia (∀i y,i<j->ml[i]?=some y->0<=y/\y<pn)/\Ex w1 wr) (fun j' _=>ml.length-(intOf j').toNat)
     case atStart=>exact⟨0,ac,rfl,Aa (fun i y h=>ac),aA⟩
     case round=>
      clear aA;obtain⟨j,hj,rfl,aM,hx⟩:=hrel;have r0:=hx.cell d0;have r1:=hx.cell d1;have r2:=hx.cell d2;by_cases hlt:j<ml.length
      .obtain⟨y,hy⟩:∃y,ml[j]?=some y:=⟨_,List.getElem?_eq_getElem hlt⟩;obtain⟨b,o,rfl,hc⟩:=M3.o ac;have c1:=hx.cell (hc j y hy);have aP:(j:Int)<(mn:Int):=by have:=aD.o;omega
       by_cases hy0:0<=y/\y<pn
       .have HA:=Aa (show ∀i z,i<j+1->ml[i]?=some z->0<=z/\z<pn from fun i z hi hz=>by
         by_cases e:i=j
         .subst e;rw[hy]at hz;injection hz with hz;subst hz;exact hy0
         .exact aM.o i z ac hz)
        obtain⟨y0,y1⟩:=hy0;have b1:decide (y<0)=false:=by simpa using y0
        have b2:decide ((pn:Int)<=y)=false:=by simpa using y1
        clear hc hy;go_wp2_with fail
        go_quiet (fail)
        go_wp2_with fail
        go_roundw
        case rel=>exact⟨j+1,ac,by go_num,HA,hx.drewN _⟩
        case measure=>simp[intOf];omega
       .have HF:=Aa (aC.o (by
         rw[aU.o,List.all_eq_false];refine⟨y,List.mem_of_getElem? hy,?_⟩;simpa using hy0))
        have aK:y<0∨(0<=y/\(pn:Int)<=y):=ac;clear hc hy hy0;rcases aK with aK|⟨aK,hy2⟩
        .have b1:decide (y<0)=true:=by simpa using aK
         exact zb3
        .have b1:decide (y<0)=false:=by simpa using aK
         have b2:decide ((pn:Int)<=y)=true:=by simpa using hy2
         exact zb3
      .obtain rfl:j=ml.length:=by omega
       have aG:∀y∈ml,0<=y/\y<pn:=fun y hy=>by
        obtain⟨i,hi,e⟩:=List.getElem_of_mem hy;exact aM.o i y hi au
       have HT:=Aa (show Ce pn mn ml=if Yd pn ml=true then 0 else 1 by
        unfold Ce;rw[aU.o,show(ml.all fun x=>decide (0<=x)&&decide (x<(pn:Int)))=true by
         rw[List.all_eq_true];intro y hy;simp[aG y hy],decide_eq_false (show ¬(mn:Int)=1 by have:=bA.o;omega)]
        simp)
       have bB:=Aa (fun (w':World) (h:Al w' (.slice ma ml.length mc) ml)=>J3 pn ml (.slice ma ml.length mc) w' p2 aE (by have:=aD.o;omega) (aY.o _ aD.o) h aG);have aP:¬((ml.length:Int)<(mn:Int)):=by have:=aD.o;omega
       clear aG;go_wp2_with fail
       refine(bB.o _ (aZ.o.ex (e0.trans hx))).mono ?_;rintro e w4⟨rfl,aS⟩;by_cases hir:Yd pn ml=true
       .have HC:=Aa (show Ce pn mn ml=0 by rw[HT.o,if_pos hir]);rw[hir];clear hir;exact zcQ
       .have HC:=Aa (show Ce pn mn ml=1 by rw[HT.o,if_neg hir]);have aL:Yd pn ml=false:=by simpa using hir
        rw[aL];clear hir aL;exact zcQ
    .have aW:((ml.length:Int)==(mn:Int))=false:=by rw[beq_eq_false_iff_ne];omega
     have aV:((ml.length:Int) !=(mn:Int))=true:=by rw[bne_iff_ne];omega
     have HC:=Aa (aC.o (by rw[HR.o,show(ml.length==mn)=false by simp[hlen],Bool.false_and]));clear hlen HR;exact zbc
  .have aF:Je pn=false:=by simpa using hpr
   have HC:=Aa (aC.o (by rw[aB.o,aF];rfl));rw[aF]at aI;have aJ:=Aa aI;clear aI hpr aF aB;exact zbc
theorem Pn{p m:Nat}{b1:List Bool}{D:List (List Bool)}:∀(T:List Nat) (s i t:Nat),Fm p m b1 D T s=true->T[i]?=some t->Xk p m b1 D t (Hz p m (s+i))=true
 | [],s,i,t,_,h=>by simp at h
 | x :: T,s,i,t,h,hi=>by
  have h1:(match Xk p m b1 D x (Hz p m s) with|true=>Fm p m b1 D T (Nat.succ s)|false=>false)=true:=h
  cases he:Xk p m b1 D x (Hz p m s) with
  | false=>rw[he]at h1;cases h1
  | true=>
   rw[he]at h1
   cases i with
   | zero=>simp at hi;subst hi;exact he
   | succ i=>
    have:=Pn T (s+1) i t h1 (by simpa using hi)
    rwa[show s+1+i=s+(i+1) by omega]at this
theorem QT{f:List Bool->Bool}:∀(l:List (List Bool)),allB f l=true->∀x∈l,f x=true
 | [],_,x,h=>by cases h
 | y :: l,h,x,hx=>by
  have h1:(match f y with|true=>allB f l|false=>false)=true:=h
  cases hf:f y with
  | false=>rw[hf]at h1;cases h1
  | true=>
   rw[hf]at h1;rcases List.mem_cons.1 hx with rfl|hx
   .exact hf
   .exact QT l h1 x hx
theorem LH(p:Nat):∀m,Hz p m 0=List.replicate m 0
 | 0=>rfl
 | m+1=>by
  show Nat.mod 0 p :: Hz p m (Nat.div 0 p)=_
  have h1:Nat.mod 0 p=0:=Nat.zero_mod p;have h2:Nat.div 0 p=0:=Nat.zero_div p;rw[h1,h2,LH p m];rfl
theorem Nh{p m g:Nat}{b1:List Bool}{D:List (List Bool)}{low:List Nat}(hp:2<=p)(hm:1<=m)(hl:low.length=m)(hg:g<p^m)(h:gnC p m g b1 D low=true):
  BK p m (lf low) g (DR 0 b1)=1/\∀b∈D,BK p m (lf low) g (DR 0 b)≠1:=by
 unfold gnC at h;rw[LH]at h;have aA:=fun bs=>RD hp hm hl g hg bs 0
 cases h1:Nat.beq (pwC p m low (List.replicate m 0) g b1 1) 1 with
 | false=>rw[h1]at h;cases h
 | true=>
  rw[h1]at h;refine⟨by rw[<-aA];exact Nat.eq_of_beq_eq_true h1,fun b hb e=>?_⟩;have h2:=QT D h b hb;rw[<-aA]at e;have e':pwC p m low (List.replicate m 0) g b 1=1:=e;rw[e']at h2;simp at h2
theorem Np{p:Nat}(hp:1<=p):∀l:List Nat,QI p l=0->∀j,l.getD j 0=0
 | [],_,j=>by simp
 | x :: l,h,j=>by
  have h1:x+p*QI p l=0:=h;have h2:QI p l=0:=by
   rcases Nat.eq_zero_or_pos (QI p l) with e|e
   .exact e
   .have:=Nat.mul_le_mul hp e;omega
  cases j with
  | zero=>simp;omega
  | succ j=>simpa using Np hp l h2 j
theorem zaK{P:Prop}(h:P:=by
 have hs:IS d Av:=fun i hi=>by unfold Av;rw[if_neg (by omega)]
 rw[OU hs _ _ j (by omega)]):P:=h
theorem UW{p d u:Nat}{low:List Nat}(hp:2<=p)(hd:1<=d)(h:dvC p d u low=true):Ct p (ap d (AK p d u) (low.length+1) (lf (low ++ [1])) Av) (fun _=>0):=by
 unfold dvC at h;have h0:=Np (show 1<=p by omega) _ (Nat.eq_of_beq_eq_true h);rw[LH]at h0;obtain⟨h1,h2⟩:=K9 (p:=p) (m:=d) (low:=Hz p d u) (a:=Hz p d 1) ac hd (Di p d u) (Di p d 1) rfl (low ++ [1]);rw[Jk,Jk,OP hp hd]at h2;intro j;by_cases hj:j<d
 .have:=h2 j hj;rw[h0 j,Ov,List.length_append]at this;rw[show low.length+1=low.length + [1].length from rfl,<-this];rfl
 .exact zaK
def bndC(p m q t:Nat):Bool:=
 if t%2=0 then decide (1<=t/2%8)&&(decide (2*(t/2%8)<=m)&&decide (t/16<p^(t/2%8))) else decide (1<=t/2)&&decide (t/2<q)
def FK(p m:Nat)(low:List Nat):Prop:=
 Hf p m (lf low)∨∃d u,1<=d/\2*d<=m/\u<p^d/\Ct p (ap d (AK p d u) (m+1) (lf (low ++ [1])) Av) (fun _=>0)
theorem zcC{P:Prop}(h:P:=by
 obtain⟨y,hy,hd⟩:=hC e h1 h2;exact⟨_,List.mem_map.2 ⟨y,hy,rfl⟩,hd⟩):P:=h
theorem T8{p m q:Nat}{b1:List Bool}{D:List (List Bool)}{T:List Nat}(hp:2<=p)(hm:1<=m)(hq:p^m=q)(hT:Fm p m b1 D T 0=true)(hl:T.length=q)
  (hb:∀t∈T,bndC p m q t=true) (ho:DR 0 b1=q-1) (hC:∀e,e<q-1->e ∣ q-1->∃y∈D,e ∣ DR 0 y) (v:Nat) (hv:v<q):FK p m (Hz p m v):=by
 obtain⟨t,ht⟩:∃t,T[v]?=some t:=⟨_,List.getElem?_eq_getElem ac⟩;have h1:=Pn T 0 v t hT ht;rw[Nat.zero_add]at h1;have h2:=hb t (List.mem_of_getElem? ht);unfold Xk at h1;unfold bndC at h2;by_cases he:t%2=0
 .rw[if_pos he]at h2;have h3:Nat.beq (Nat.mod t 2) 0=true:=by
   show Nat.beq (t%2) 0=true
   rw[he];rfl
  rw[h3]at h1;simp only[Bool.and_eq_true,decide_eq_true_eq]at h2;obtain⟨a,b,c⟩:=h2;refine .inr ⟨t/2%8,t/16,a,b,c,?_⟩;have:=UW hp a h1
  rwa[Di]at this
 .rw[if_neg he]at h2;have h3:Nat.beq (Nat.mod t 2) 0=false:=by
   show Nat.beq (t%2) 0=false
   cases h:Nat.beq (t%2) 0 with
   | false=>rfl
   | true=>exact absurd (Nat.eq_of_beq_eq_true h) he
  rw[h3]at h1;simp only[Bool.and_eq_true,decide_eq_true_eq]at h2;obtain⟨a,b⟩:=h2;have aA:t/2<p^m:=by rw[hq];exact b
  obtain⟨k1,k2⟩:=Nh hp hm (Di p m v) aA h1;refine .inl ⟨t/2,a,aA,W6 (D:=D.map (DR 0)) hp hm (by rw[hq,<-ho];exact k1) (fun y hy=>?_) (fun e h1 h2=>?_)⟩
  .obtain⟨x,hx,rfl⟩:=List.mem_map.1 hy;exact k2 x hx
  .rw[hq]at h1 h2;exact zcC
theorem Yk{p g:Nat}{b1:List Bool}{D:List (List Bool)}(hp:2<=p)(aB:1<=g)(hg:g<p)(hT:gnC p 1 g b1 D (Hz p 1 0)=true)(ho:DR 0 b1=p-1)
  (hC:∀e,e<p-1->e ∣ p-1->∃y∈D,e ∣ DR 0 y):FK p 1 (Hz p 1 0):=by
 have aA:g<p^1:=by rw[Nat.pow_one];exact hg
 obtain⟨k1,k2⟩:=Nh hp (Nat.le_refl 1) (Di p 1 0) aA hT;refine .inl ⟨g,aB,aA,W6 (D:=D.map (DR 0)) hp (Nat.le_refl 1) (by rw[Nat.pow_one,<-ho];exact k1) (fun y hy=>?_) (fun e h1 h2=>?_)⟩
 .obtain⟨x,hx,rfl⟩:=List.mem_map.1 hy;exact k2 x hx
 .rw[Nat.pow_one]at h1 h2;exact zcC
def btA:Nat->Nat->List Bool->List Bool
 | 0,_,l=>l
 | k+1,n,l=>match Nat.beq n 0 with
  | true=>l
  | false=>btA k (Nat.div n 2) (Nat.beq (Nat.mod n 2) 1 :: l)
def dvsP(n:Nat):List (List Bool):=((List.range n).filter fun d=>match Nat.beq (Nat.mod n d) 0 with|true=>Nat.ble 1 d|false=>false).map fun d=>btA 9 d []
def tbP:List (Nat × Nat):= [(2,1),(3,2),(5,2),(7,3),(11,2),(13,2),(17,3),(19,2),(23,5),(29,2),(31,3),(37,2),(41,6),(43,3),(47,5),(53,2),(59,2),(61,2),(67,2),(71,7),(73,5),(79,3),(83,2),(89,3),(97,5),(101,2),(103,5),(107,2),(109,6),(113,3),(127,3),(131,2),(137,3),(139,2),(149,2),(151,6),(157,5),(163,2),(167,5),(173,2),(179,2),(181,2),(191,19),(193,5),(197,2),(199,3),(211,2),(223,3),(227,2),(229,6),(233,3),(239,7),(241,7),(251,6)]
theorem bt_ok:∀d,d<257->DR 0 (btA 9 d [])=d:=ak
theorem tbP_ok:∀e∈tbP,1<=e.2/\e.2<e.1/\e.1<257/\gnC e.1 1 e.2 (btA 9 (e.1-1) []) (dvsP (e.1-1)) (Hz e.1 1 0)=true:=ak
theorem T9{e:Nat × Nat}(he:e∈tbP):FK e.1 1 (Hz e.1 1 0):=by
 obtain⟨h1,h2,h3,h4⟩:=tbP_ok e he;refine Yk ac h1 h2 h4 (bt_ok _ ac) fun d hd hx=>⟨_,List.mem_map.2 ⟨d,List.mem_filter.2 ⟨List.mem_range.2 hd,?_⟩,rfl⟩,?_⟩
 .have e1:Nat.mod (e.1-1) d=0:=Nat.mod_eq_zero_of_dvd hx;have h5:1<=d:=by
   rcases Nat.eq_zero_or_pos d with e2|e2
   .rw[e2]at hx;have:=Nat.zero_dvd.1 hx;omega
   .exact e2
  rw[e1];show Nat.ble 1 d=true
  rw[Nat.ble_eq];exact h5
 .rw[bt_ok d ac];exact Nat.dvd_refl _
theorem RF:∀p,p<257->Je p=true->p∈tbP.map (·.1):=ak
theorem Em{p m v:Nat}{b1:List Bool}{D:List (List Bool)}{T:List Nat}(hT:Fm p m b1 D T 0=true)(hv:v<p^m)(hp:2<=p:=by omega)(hm:1<=m:=by omega)(hl:T.length=p^m:=by decide +kernel)
  (hb:∀t∈T,bndC p m (p^m) t=true:=by decide +kernel) (ho:DR 0 b1=p^m-1:=by decide +kernel) (hC:∀e,e<p^m-1->e ∣ p^m-1->∃y∈D,e ∣ DR 0 y:=by decide +kernel):FK p m (Hz p m v):=
 T8 hp hm rfl hT hl hb ho hC v hv
theorem Y7:((List.range 257).all fun p=>(List.range 9).all fun m=> !(decide (2<=m))||(!(Je p)||(!(decide (p^m<=256))||decide ((p,m)∈ [(2,2),(2,3),(2,4),(2,5),(2,6),(2,7),(2,8),(3,2),(3,3),(3,4),(3,5),(5,2),(5,3),(7,2),(11,2),(13,2)]))))=true:=ak
theorem Uu(m:Nat)(hm:m<9)(p:Nat)(hp:p<257)(h2:2<=m)(aA:Je p=true)(hq:p^m<=256):(p,m)∈ [(2,2),(2,3),(2,4),(2,5),(2,6),(2,7),(2,8),(3,2),(3,3),(3,4),(3,5),(5,2),(5,3),(7,2),(11,2),(13,2)]:=by
 have h:=List.all_eq_true.1 (List.all_eq_true.1 Y7 p (List.mem_range.2 hp)) m (List.mem_range.2 hm);rw[decide_eq_true h2,aA,decide_eq_true hq]at h;simpa using h
theorem ZK{p m v:Nat}(aB:Je p=true)(hp:p<=256)(aC:1<=m)(hm:m<=8)(hq:p^m<=256)(hv:v<p^m)(h0:m=1->v=0):FK p m (Hz p m v):=by
 rcases Nat.eq_or_lt_of_le aC with e|e
 .subst e;obtain rfl:=h0 rfl;have aA:=RF p ac aB;obtain⟨e,he,rfl⟩:=List.mem_map.1 aA;exact T9 he
 .have aA:=Uu m ac p ac e aB hq;simp only[List.mem_cons,List.not_mem_nil,or_false,Prod.mk.injEq]at aA;rcases aA with⟨rfl,rfl⟩|⟨rfl,rfl⟩|⟨rfl,rfl⟩|⟨rfl,rfl⟩|⟨rfl,rfl⟩|⟨rfl,rfl⟩|⟨rfl,rfl⟩|⟨rfl,rfl⟩|⟨rfl,rfl⟩|⟨rfl,rfl⟩|⟨rfl,rfl⟩|⟨rfl,rfl⟩|⟨rfl,rfl⟩|⟨rfl,rfl⟩|⟨rfl,rfl⟩|⟨rfl,rfl⟩
  .exact Em Yy hv
  .exact Em Yx hv
  .exact Em Yw hv
  .exact Em Yv hv
  .exact Em Yu hv
  .exact Em Yt hv
  .exact Em Ys hv
  .exact Em Yr hv
  .exact Em Yq hv
  .exact Em Yp hv
  .exact Em Yo hv
  .exact Em Yn hv
  .exact Em Ym hv
  .exact Em Yl hv
  .exact Em Vq hv
  .exact Em Vp hv
theorem lw_isD{p m:Nat}{ml:List Int}(h:Ha p m ml):IsD p m (lw ml):=by
 have hp:=h.p2;refine⟨fun j hj=>?_,fun j=>?_⟩
 .unfold lw;rw[List.getD_eq_getElem?_getD,List.getElem?_eq_none (by have:=h.len;split at this <;> omega)];rfl
 .unfold lw;rw[List.getD_eq_getElem?_getD];rcases hj:ml[j]? with _|z
  .simp;omega
  .exact h.rng z (List.mem_of_getElem? hj)
theorem TG{p d:Nat}{low:Vc}{ml:List Int}(hl:∀j,d<=j->True):Qy p d low ml=true↔Ct p (ap d low (ml.length+1) (Mn ml) Av) (fun _=>0)∨(Qy p d low ml=true/\d=0):=by
 unfold Qy;rw[List.all_eq_true];constructor
 .intro h;rcases Nat.eq_zero_or_pos d with e|e
  .exact .inr ⟨h,e⟩
  .refine .inl fun j=>?_;by_cases hj:j<d
   .have:=h j (List.mem_range.2 hj);simpa using this
   .exact zaK
 .rintro (h|⟨h,_⟩)
  .intro j _;have:=h j;simpa using this
  .exact h
theorem G7{p m:Nat}{ml:List Int}(h:Ha p m ml)(aE:Je p=true):Hf p m (lw ml)↔(m=1∨Yd p ml=true):=by
 have hp:=h.p2;have hm:=h.m1;have hD:=lw_isD h;obtain⟨v,hv⟩:=nA ((Ey p m (lw ml)).toNat);have aC:AK p m v=lw ml:=by rw[<-hv];exact LF ac hD
 have aD:v<p^m:=by have:=Dj hD.2 m;omega
 have hG:=ZK aE h.p256 hm h.m8 h.q aD (fun e=>by
  subst e;have hl:=h.len;rw[if_pos rfl]at hl;have:ml= []:=List.eq_nil_of_length_eq_zero hl;rw[<-hv,this];simp[Ey,lw])
 unfold FK at hG;rw[Jk,aC]at hG;by_cases e1:m=1
 .constructor
  .intro _;exact .inl e1
  .intro _;rcases hG with hG|⟨d,u,h1,h2,_⟩
   .exact hG
   .omega
 .have hl:=h.len;rw[if_neg e1]at hl;have aA:lf (Hz p m v ++ [1])=Mn ml:=by
   funext j;have aF:=congrFun aC j;unfold lf Mn;rw[hl,List.getD_eq_getElem?_getD];by_cases hj:j<m
   .rw[if_pos hj,List.getElem?_append_left (by rw[Di];exact hj)];have h2:=congrFun (Jk p m v) j;rw[aF]at h2;unfold lf at h2;rw[List.getD_eq_getElem?_getD]at h2;exact h2
   .rw[if_neg hj,List.getElem?_append_right (by rw[Di];omega),Di];by_cases hj2:j=m
    .subst hj2;simp
    .rw[if_neg hj2,List.getElem?_eq_none aq];rfl
  rw[aA]at hG;constructor
  .intro hF;right;refine Tj fun d u h1 h2=>?_;rw[<-Bool.not_eq_true];intro aB;rcases (TG (fun _ _=>trivial)).1 aB with h3|⟨_,h3⟩
   .refine UA (m:=m) (d:=d+1) (low:=AK p (d+1) u) hp ac ac (Dy ac _ _) ?_ hF;intro t;have h4:=h3 t;rw[hl]at h4;rw[<-h4];dsimp only
    congr 1
    rw[ap];rw[IP (c:=Mn ml) (d:=lw ml) (n:=m) (fun j hj=>by unfold Mn lw;rw[hl,if_pos hj])];rw[show Mn ml m=1 by unfold Mn;rw[hl,if_neg ac,if_pos rfl]];dsimp only;rw[Int.one_mul]
   .omega
  .rintro (e|hir)
   .exact absurd e e1
   .rcases hG with hG|⟨d,u,h1,h2,h3,h4⟩
    .exact hG
    .exfalso;obtain⟨e,rfl⟩:∃e,d=e+1:=⟨d-1,ac⟩;rw[<-hl]at h4 h2;have:=WL h2 h3 ((TG (fun _ _=>trivial)).2 (.inl h4));rw[this]at hir;cases hir
theorem Cm(p m:Int)(ml:List Int):Ce p m ml=0↔Ga p m ml:=by
 unfold Ce;constructor
 .intro h;split at h
  .rename_i hc;simp only[Bool.and_eq_true,Bool.or_eq_true,decide_eq_true_eq]at hc;obtain⟨h1,h2⟩:=hc;obtain⟨pn,mn,rfl,rfl,hf,aA,_⟩:=NM h1;refine⟨pn,mn,rfl,rfl,hf,aA,(G7 hf aA).2 ?_⟩;rcases h2 with h2|h2
   .left;omega
   .right;simpa using h2
  .cases h
 .rintro⟨pn,mn,rfl,rfl,hf,aA,hF⟩;rw[if_pos];simp only[Bool.and_eq_true,Bool.or_eq_true,decide_eq_true_eq];refine⟨(T4 hf aA).1,?_⟩;rcases (G7 hf aA).1 hF with h|h
  .left;omega
  .right;simpa using h
end Go.Proofs.YtehieobniamagaaGreat
