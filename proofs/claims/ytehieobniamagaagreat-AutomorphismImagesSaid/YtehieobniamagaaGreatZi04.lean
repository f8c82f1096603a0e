/- As XRgn, for regions with guarded operations: an operation that is not wanted lays undef. -/
import Derived.Test.YtehieobniamagaaGreatZi02
import Derived.Test.YtehieobniamagaaGreatZi03
namespace Go.Proofs.YtehieobniamagaaGreat
open Go.Region renaming binds→ϊ,wanted→ζi,ready→ηe
open Bool renaming and_eq_true→Ξ
open Nat renaming zero_add→ύ,le_trans→μ,div_div_eq_div_mul→δu,zero_div→μj,pow_pos→ϕ,pow_le_pow_right→ϝ,div_eq_of_lt→δn,lt_of_lt_of_le→Δ,pow_succ→γp,div_le_self→ζo,lt_or_ge→ζq,mod_lt→ζv,mul_le_mul_left→ζx,xor_lt_two_pow→μd
open Int renaming toNat_of_nonneg→δx,emod_nonneg→γw,emod_lt_of_pos→γi,tmod_eq_emod_of_nonneg→Φ,mul_nonneg→δd
open Go.IntWalk renaming i64_in→ρ
open Go.RowKit
set_option linter.all false
set_option maxRecDepth 100000
set_option maxHeartbeats 1000000
def Rv(n:Nat):List Oper->Nat->List Nat->Bool
 | [],_,_=>true
 | o :: l,k,seen=>(o.after.all fun e=> !ϊ .any e||decide (e.on<k))&&(match o.dst with
  | none=>Rv n l (k+1) seen
  | some d=>decide (d<n) && !seen.contains d&&Rv n l (k+1) (d :: seen))
structure Us(ops:Array Oper)(n:Nat):Prop where
 wait:∀(i:Nat) (o:Oper),ops[i]?=some o->∀e∈o.after,ϊ .any e=true->(e:Edge).on<i
 lt:∀(i:Nat) (o:Oper) (d:Nat),ops[i]?=some o->o.dst=some d->d<n
 inj:∀(i j:Nat) (oi oj:Oper) (d:Nat),ops[i]?=some oi->ops[j]?=some oj->oi.dst=some d->oj.dst=some d->i=j
theorem I0(n:Nat):∀(l:List Oper) (k:Nat) (aA:List Nat),Rv n l k aA=true->∀(i:Nat) (o:Oper),l[i]?=some o->
  (∀e∈o.after,ϊ .any e=true->e.on<k+i)/\∀d,o.dst=some d->d<n/\d ∉ aA/\∀j oj,j<i->l[j]?=some oj->oj.dst≠some d
 | [],_,_,_,i,o,h=>by simp at h
 | o :: l,k,aA,h,i,o',hi=>by
  unfold Rv at h;rw[Ξ]at h;obtain⟨h2,h3⟩:=h
  cases i with
  | zero=>
   simp at hi;subst hi;refine⟨fun e he hb=>?_,fun d hd=>?_⟩
   .rw[Array.all_eq_true_iff_forall_mem]at h2;have:=h2 e he;rw[hb]at this;simpa using this
   .exact zaE
  | succ i=>
   simp at hi
   cases hdo:o.dst with
   | none=>
    rw[hdo]at h3;obtain⟨b,c⟩:=I0 n l (k+1) aA h3 i o' hi;refine⟨fun e he hb=>by have:=b e he hb;omega,fun d hd=>?_⟩;exact zbB
   | some d0=>
    rw[hdo]at h3;simp only[Ξ]at h3;obtain⟨b,c⟩:=I0 n l (k+1) (d0 :: aA) h3.2 i o' hi;refine⟨fun e he hb=>by have:=b e he hb;omega,fun d hd=>?_⟩;exact zbk
theorem rgn_ow{l:List Oper}{n:Nat}(h:Rv n l 0 []=true):Us l.toArray n:=by
 have aA:=I0 n l 0 [] h;have hg:∀(i:Nat) o,l.toArray[i]?=some o->l[i]?=some o:=fun i o h=>ay;refine⟨fun i o ho e he hb=>by have:=(aA i o (hg i o ho)).1 e he hb;omega,fun i o d ho hd=>((aA i o (hg i o ho)).2 d hd).1,fun i j oi oj d hi hj h1 h2=>?_⟩;rcases Nat.lt_trichotomy i j with e|e|e
 .exact absurd h1 (((aA j oj (hg j oj hj)).2 d h2).2.2 i oi e (hg i oi hi))
 .exact e
 .exact absurd h2 (((aA i oi (hg i oi hi)).2 d h1).2.2 j oj e (hg j oj hj))
section
variable {ops:Array Oper} {a0 a a':Act} {L L':Nat->Bool} {vals:Nat->Value}
theorem FU.stepW(H:Us ops a0.tmps.size)(h:FU ops a0 L vals a){i:Nat}{o:Oper}(ho:ops[i]?=some o)(v:Value):FU ops a0 (Ay L i true) (Ay vals i v) (a.put o.dst v):=by
 exact zbi
end
theorem FU.putKW{l0:List Oper}{a0:Act}(H:Us l0.toArray a0.tmps.size)(vals:Nat->Value):∀(l aA:List Oper) (a:Act),aA++l=l0->FU l0.toArray a0 (fun i=>decide (i<aA.length)) vals a->FU l0.toArray a0 (fun i=>decide (i<l0.length)) vals (Go.Proofs.YtehieobniamagaaGreat.Cg l vals aA.length a)
 | [],aA,a,he,h=>by
  rw[List.append_nil]at he;subst he;exact h
 | o :: l,aA,a,he,h=>by
  have ho:l0.toArray[aA.length]?=some o:=by rw[<-he];simp
  have h1:=h.stepW H ho (vals aA.length);have e1:Ay (fun i=>decide (i<aA.length)) aA.length true=fun i=>decide (i<(aA ++ [o]).length):=by
   exact zcw
  have e2:Ay vals aA.length (vals aA.length)=vals:=by
   funext i;by_cases e:i=aA.length
   .subst e;rw[Ab]
   .rw[Ac _ _ e]
  rw[e1,e2]at h1;have h2:=FU.putKW H vals l (aA ++ [o]) (a.put o.dst (vals aA.length)) (by rw[<-he];simp) h1;rw[List.length_append]at h2;exact h2
section
variable {P:Program} {Q:Exit->Act->World->Prop} {J:(Nat->Bool)->(Nat->Value)->World->Prop} {a0:Act}
def OpSw(P:Program)(Q:Exit->Act->World->Prop)(J:(Nat->Bool)->(Nat->Value)->World->Prop)(ops:Array Oper)(a0:Act)(i:Nat)(o:Oper):Prop:=
 ∀L vals a w,FU ops a0 L vals a->J L vals w->L i=false->(∀e∈o.after,ϊ .any e=true->L e.on=true)->(∀(k:Nat) (o':Oper),L k=true->ops[k]?=some o'->∀e∈o'.after,ϊ .any e=true->L e.on=true)->
  ∀K:Act->World->Prop,(∀v w',J (Ay L i true) (Ay vals i v) w'->K (a.put o.dst v) w')->if ζi o (yielded ops a.tmps)=true then o.wp P a w K Q else K (a.put o.dst undef) w
theorem Wp{l:List Oper}(H:Us l.toArray a0.tmps.size)(hs:AH (OpSw P Q J l.toArray a0) l 0)
  (he:∀L vals w,(∀i,i<l.length->L i=true)->J L vals w->Q .normal (Cg l vals 0 a0) w):
  ∀fuel (listed:Array Bool) a w vals,listed.size=l.length->(List.range l.length).countP (fun i=> !listed.getD i false)<=fuel->(∀(k:Nat) (o':Oper),listed.getD k false=true->l.toArray[k]?=some o'->∀e∈o'.after,ϊ .any e=true->listed.getD e.on false=true)->FU l.toArray a0 (fun i=>listed.getD i false) vals a->J (fun i=>listed.getD i false) vals w->wpAny P .any l.toArray Q fuel listed a w:=by
 have aG:∀(listed:Array Bool) a w vals,listed.size=l.length->(∀i,i<l.length->listed.getD i false=true)->FU l.toArray a0 (fun i=>listed.getD i false) vals a->J (fun i=>listed.getD i false) vals w->Q .normal a w:=fun listed a w vals aC aB hf hj=>by
  have h1:=he _ vals w aB hj;have h2:=FU.putKW H vals l [] a0 rfl ((FU.init l.toArray a0 vals).congr fun i hi=>ag);have h3:=hf.uniq (h2.congr fun i hi=>by
   have aK:i<l.length:=by simpa using hi
   simp only[aK,decide_true];exact(aB i aK).symm)
  rw[h3];exact h1
 have aB:∀(listed:Array Bool),listed.size=l.length->ηe .any l.toArray listed= []->∀i,i<l.length->listed.getD i false=true:=fun listed aC hr i=>by
  induction i using Nat.strongRecOn with
  | ind i ih=>
   intro hi
   cases hb:listed.getD i false with
   | true=>rfl
   | false=>
    exfalso;have ho:l.toArray[i]?=some l[i]:=by simp[hi]
    have hm:i∈ηe .any l.toArray listed:=mem_ready.2 ⟨by
     have aD:i<listed.size:=ac;simp[Array.getD,aD]at hb ⊢;exact hb,l[i],ho,fun e aO hb=>by
     have hw:=H.wait i _ ho e aO hb;exact ih e.on hw ac⟩
    rw[hr]at hm;cases hm
 intro fuel
 induction fuel with
 | zero=>
  intro listed a w vals aC hc aJ hf hj;have ha:∀i,i<l.length->listed.getD i false=true:=fun i hi=>by
   exact zbH
  refine⟨?_,aG listed a w vals aC ha hf hj⟩
  cases hr:ηe .any l.toArray listed with
  | nil=>rfl
  | cons x t=>
   exfalso;have hm:x∈ηe .any l.toArray listed:=by rw[hr];exact List.mem_cons_self ..
   obtain⟨h1,o,h2,_⟩:=mem_ready.1 hm;have hx:x<l.length:=bn;have h3:=ha x hx;have aD:x<listed.size:=ac;simp[Array.getD,aD]at h1 h3;rw[h1]at h3;cases h3
 | succ fuel ih=>
  intro listed a w vals aC hc aJ hf hj;refine⟨fun hr=>aG listed a w vals aC (aB listed aC hr) hf hj,fun i hi=>?_⟩;obtain⟨h1,o,h2,h3⟩:=mem_ready.1 hi;have aN:i<l.length:=bn;have aD:i<listed.size:=ac;have aL:listed.getD i false=false:=by
   simp[Array.getD,aD]at h1 ⊢;exact h1
  have aR:l[i]?=some o:=by simpa using h2
  have BF:OpSw P Q J l.toArray a0 (0+i) o:=hs.get aR;rw[ύ]at BF;have aH:(fun j=>(listed.setIfInBounds i true).getD j false)=Ay (fun j=>listed.getD j false) i true:=by
   funext j;by_cases e:j=i
   .subst e;rw[Ab];simp[Array.getD,aD]
   .exact zaG
  have aI:∀(k:Nat) (o':Oper),(listed.setIfInBounds i true).getD k false=true->l.toArray[k]?=some o'->∀e∈o'.after,ϊ .any e=true->(listed.setIfInBounds i true).getD e.on false=true:=fun k o' hk aE e he hb=>by
   have e1:=congrFun aH k;have e2:=congrFun aH e.on;rw[e1]at hk;rw[e2];by_cases h0:e.on=i
   .rw[h0,Ab]
   .rw[Ac _ _ h0];by_cases h4:k=i
    .subst h4;rw[h2]at aE;injection aE with aE;subst aE;exact h3 e he hb
    .rw[Ac _ _ h4]at hk;exact aJ k o' hk aE e he hb
  have aF:∀v w',J (Ay (fun j=>listed.getD j false) i true) (Ay vals i v) w'->wpAny P .any l.toArray Q fuel (listed.setIfInBounds i true) (a.put o.dst v) w':=fun v w' aM=>by
   refine ih _ _ _ (Ay vals i v) (by rw[Array.size_setIfInBounds];exact aC) ?_ aI (by rw[aH];exact hf.stepW H h2 v) (by rw[aH];exact aM);have aQ:=O0 (fun j=>listed.getD j false) i aL l.length;rw[if_pos aN]at aQ;have aP:(List.range l.length).countP (fun j=> !(listed.setIfInBounds i true).getD j false)=(List.range l.length).countP (fun j=> !(Ay (fun j=>listed.getD j false) i true) j):=by
    congr 1
    funext j;rw[<-congrFun aH j]
   rw[aP];omega
  have aA:=BF _ vals a w hf hj aL (fun e he hb=>h3 e he hb) aJ _ aF;unfold wpOp;rw[h2];by_cases hw:ζi o (yielded l.toArray a.tmps)=true
  .rw[if_pos hw]at aA;simp only[hw,if_true];exact .inl aA
  .rw[if_neg hw]at aA;simp only[hw];exact aA
theorem Kn{id:Nat}{l:List Oper}{w:World}(J:(Nat->Bool)->(Nat->Value)->World->Prop)(hm:P.follows .mixedOrders=true)(hB:Rv a0.tmps.size l 0 []=true)(h0:J (fun _=>false) (fun _=>undef) w.drew)
  (hs:AH (OpSw P Q J l.toArray a0) l 0) (he:∀L vals w,(∀i,i<l.length->L i=true)->J L vals w->Q .normal (Cg l vals 0 a0) w):(Code.region id l.toArray true).wp P Q a0 w:=by
 refine wp_region_any hm ?_;have hL:(fun i=>(Array.replicate l.toArray.size false).getD i false)=fun _=>false:=by
  exact zbC
 refine Wp (rgn_ow hB) hs he _ _ _ _ (fun _=>undef) ag (μ List.countP_le_length ag) (fun k o' hk=>by have:=congrFun hL k;rw[this]at hk;cases hk) ?_ ?_
 .rw[hL];exact FU.init _ _ _
 .rw[hL];exact h0
def Ic(l:List Oper)(pv:Nat->Value)(o:Oper):Bool:=match o.guard with
 | none=>true
 | some (j,want)=>match (l[j]?).bind (·.dst) with
  | none=>false
  | some _=>match pv j with
   | .bool b=>b==want
   | _=>false
def grdK(l:List Oper):Bool:=l.all fun o=>match o.guard with
 | none=>true
 | some (j,_)=>o.after.any fun e=>e.on==j&&ϊ .any e
theorem VU{l:List Oper}{L:Nat->Bool}{pv vals:Nat->Value}{a:Act}(hf:FU l.toArray a0 L vals a)(hv:∀k,L k=true->vals k=pv k){o:Oper}(hg:∀j b,o.guard=some (j,b)->L j=true):
  ζi o (yielded l.toArray a.tmps)=Ic l pv o:=by
 unfold ζi Ic
 cases hgo:o.guard with
 | none=>rfl
 | some jw=>
  obtain⟨j,aA⟩:=jw;have hL:=hg j aA hgo;simp only[yielded,List.getElem?_toArray]
  cases hlj:l[j]? with
  | none=>simp
  | some oj=>
   cases hdj:oj.dst with
   | none=>simp[hdj]
   | some t=>
    have h1:=hf.got j oj t hL (by simpa using hlj) hdj;rw[hv j hL]at h1;simp only[Option.bind_some,hdj,h1];cases pv j <;> simp
def BB(P:Program)(Q:Exit->Act->World->Prop)(l:List Oper)(a0:Act)(pv:Nat->Value)(w:World)(i:Nat)(o:Oper):Prop:=
 if Ic l pv o=true then ∀(L:Nat->Bool) (a:Act) (w':World),(∀k t o',L k=true->l[k]?=some o'->o'.dst=some t->a.tmps[t]?=some (pv k))->(∀t,(l.all fun o=>o.dst !=some t)=true->a.tmps[t]?=a0.tmps[t]?)->(∀e∈o.after,ϊ .any e=true->L e.on=true)->Ex w w'->
  ∀K:Act->World->Prop,(∀w'',Ex w' w''->K (a.put o.dst (pv i)) w'')->o.wp P a w' K Q
 else pv i=undef
theorem BB.on{l:List Oper}{pv:Nat->Value}{w:World}{i:Nat}{o:Oper}(hw:Ic l pv o=true)(h:∀(L:Nat->Bool) (a:Act) (w':World),(∀k t o',L k=true->l[k]?=some o'->o'.dst=some t->a.tmps[t]?=some (pv k))->(∀t,(l.all fun o=>o.dst !=some t)=true->a.tmps[t]?=a0.tmps[t]?)->(∀e∈o.after,ϊ .any e=true->L e.on=true)->Ex w w'->
  ∀K:Act->World->Prop,(∀w'',Ex w' w''->K (a.put o.dst (pv i)) w'')->o.wp P a w' K Q):BB P Q l a0 pv w i o:=by
 unfold BB;rw[if_pos hw];exact h
theorem BB.off{l:List Oper}{pv:Nat->Value}{w:World}{i:Nat}{o:Oper}(hw:Ic l pv o=false)(h:pv i=undef):BB P Q l a0 pv w i o:=by
 unfold BB;rw[if_neg (by rw[hw];decide)];exact h
theorem BR{id:Nat}{l:List Oper}{w:World}(pv:Nat->Value)(hm:P.follows .mixedOrders=true)(hB:Rv a0.tmps.size l 0 []=true)(hG:grdK l=true)
  (hs:AH (BB P Q l a0 pv w) l 0) (he:∀w',Ex w w'->Q .normal (Cg l pv 0 a0) w'):(Code.region id l.toArray true).wp P Q a0 w:=by
 refine Kn (fun L V w'=>(∀k,L k=true->V k=pv k)/\Ex w w') hm hB ⟨fun k h=>az,(Ex.refl w).drew⟩ ?_ ?_
 .have aD:∀(l':List Oper) (k0:Nat),(∀i o,l'[i]?=some o->l[k0+i]?=some o)->AH (BB P Q l a0 pv w) l' k0->AH (OpSw P Q (fun L V w'=>(∀k,L k=true->V k=pv k)/\Ex w w') l.toArray a0) l' k0:=fun l'=>by
   induction l' with
   | nil=>intro _ _ _;trivial
   | cons o l' ih=>
    intro k0 aA h;refine⟨?_,ih (k0+1) (fun i o' hi=>by rw[show k0+1+i=k0+(i+1) from ac];exact aA (i+1) o' hi) h.2⟩;intro L V a w' hf hj hi hd hcl K hK;have aE:l[k0]?=some o:=by have:=aA 0 o rfl;simpa using this
    have hg:∀j b,o.guard=some (j,b)->L j=true:=fun j b aG=>by
     have h1:=List.all_eq_true.1 hG o (List.mem_of_getElem? aE);rw[aG]at h1;simp only[Array.any_eq_true']at h1;obtain⟨e,he,h2⟩:=h1;rw[Ξ,beq_iff_eq]at h2;rw[<-h2.1];exact hd e he h2.2
    rw[VU hf hj.1 hg];have h1:=h.1;unfold BB at h1;have aB:∀v w'',v=pv k0->Ex w w''->K (a.put o.dst v) w'':=fun v w'' hv hx=>hK v w'' ⟨fun k hk=>by
     by_cases e:k=k0
     .subst e;rw[Ab];exact hv
     .rw[Ac _ _ e]at hk ⊢;exact hj.1 k hk,hx⟩
    by_cases hw:Ic l pv o=true
    .rw[if_pos hw]at h1 ⊢;exact h1 L a w' (fun k t o' hk aF aH=>by rw[<-hj.1 k hk];exact hf.in_ k t hk aF aH) (fun t ht=>hf.out_ t ht) hd hj.2 K fun w'' hx=>aB _ _ rfl (hj.2.trans hx)
    .rw[if_neg hw]at h1 ⊢;exact aB _ _ h1.symm hj.2
  exact aD l 0 (fun i o h=>by rw[ύ];exact h) hs
 .intro L V w' aC hj;have hp:Cg l V 0 a0=Cg l pv 0 a0:=Ez l 0 V pv a0 fun i o hi hd=>by
   rw[ύ];exact hj.1 i (aC i (List.getElem?_eq_some_iff.1 hi).1)
  rw[hp];exact he w' hj.2
end
def Qt(w:World)(v:Value)(r:Ending)(w':World):Prop:=r= .returned v/\∃n,w'=w.drewN n
def Av(q:Nat)(x:Int):Nat:=if 0<=x/\x<q then x.toNat else 0
theorem Cb{q:Nat}(hq:1<=q)(x:Int):Av q x<q:=by
 unfold Av;split <;> omega
theorem AE{q:Nat}{x:Nat}(h:x<q):Av q x=x:=by
 unfold Av;rw[if_pos ac];rfl
def GU(q:Nat)(x:Int):Bool:=decide (0<=x/\x<q)
theorem LQ{p:Nat}{v:Vc}{k:Nat}(h:∀j,k<=j->v j=0):∀n,k<=n->Ev p n v=Ev p k v
 | 0,hk=>by
   obtain rfl:k=0:=ac;rfl
 | n+1,hk=>by
  rcases Nat.eq_or_lt_of_le hk with e|e
  .rw[e]
  .simp only[Ev];rw[LQ h n ac,h n ac];simp
theorem Qj{p:Nat}(hp:1<=p)(m x y:Nat):((AK p m x y:Nat):Int)=Ev p m (fun j=>(AO p m x j+AO p m y j)%(p:Int)):=by
 unfold AK rep;rw[δx (Dm (fun j=>⟨γw _ ac,γi _ ac⟩) m).1]
theorem Qi{p:Nat}(hp:1<=p)(m x:Nat):((CL p m x:Nat):Int)=Ev p m (fun j=>((p:Int)-AO p m x j)%(p:Int)):=by
 unfold CL rep;rw[δx (Dm (fun j=>⟨γw _ ac,γi _ ac⟩) m).1];refine DW m fun j _=>?_;exact CA.2 ⟨-1,by grind⟩
theorem OX{p m x k:Nat}(hk:k<m):AO p m x k=((x/p^k%p:Nat):Int):=by unfold AO;rw[if_pos hk]
theorem LD{p m x k:Nat}(h:x/p^k=0)(hp:1<=p){j:Nat}(hj:k<=j):AO p m x j=0:=by
 unfold AO;split
 .obtain⟨c,rfl⟩:∃c,j=k+c:=⟨j-k,ac⟩;rw[Nat.pow_add,<-δu,h,μj];simp
 .rfl
section
variable {b p m x0:Nat} {ml:List Int}
theorem Pd(w:World)(hg:Bh w b p m ml x0)(x:Int):
  Calls Tryz.prog 199 #[(b,0),x] w (Qt w (.bool (GU (p^m) x))):=by
 have c3:=hg.c3;have HB:Hia (GU (p^m) x=decide (0<=x/\x<((p^m:Nat):Int))):=Aa (rfl);generalize p^m=q at *;clear hg;by_cases h0:0<=x
 .go_enter Tryz.func199,Tryz.ntmps199
  go_wp2
  go_ret;exact⟨Aq (by rw[HB.o];simp[h0]),0,rfl⟩
 .go_enter Tryz.func199,Tryz.ntmps199
  go_wp2
  go_ret;exact⟨Aq (by rw[HB.o];simp;omega),0,rfl⟩
theorem zbv{P:Prop}(h:P:=by
 generalize p^m=q at *;clear hg h;go_enter Tryz.func160,Tryz.ntmps160
 go_wp2_with fail
 refine HI.o.mono ?_;rintro e w1⟨rfl,n,rfl⟩;go_wp2_with fail
 go_ret;exact⟨Ai HK.o.symm,n,rfl⟩):P:=h
theorem Hy(w:World)(hg:Bh w b p m ml x0)(x:Int):
  Calls Tryz.prog 160 #[(b,0),x] w (Qt w (.int .i64 (Av (p^m) x:Nat))):=by
 have HI:=Aa (Pd w hg x);by_cases h:0<=x/\x<((p^m:Nat):Int)
 .have HK:=Aa (show((Av (p^m) x:Nat):Int)=x by unfold Av;rw[if_pos h];omega);rw[show GU (p^m) x=true from decide_eq_true h]at HI;exact zbv
 .have HK:=Aa (show((Av (p^m) x:Nat):Int)=0 by unfold Av;rw[if_neg h];rfl);rw[show GU (p^m) x=false from decide_eq_false h]at HI;exact zbv
theorem Bh.drewN{w:World}(h:Bh w b p m ml x0)(n:Nat):Bh (w.drewN n) b p m ml x0:=h.ex ((Ex.refl w).drewN n)
theorem zb7{P:Prop}(h:P:=by
 have:=Int.mul_le_mul (show D<=256 by omega) (show(pk:Int)<=256 by omega) (by omega) (by omega);omega):P:=h
theorem O9(w:World)(hg:Bh w b p m ml x0)(x:Int):
  Calls Tryz.prog 158 #[(b,0),x] w (Qt w (.int .i64 (CL p m (Av (p^m) x):Nat))):=by
 have HI:=Aa (Hy w hg x);have c0:=hg.c0;have p2:=hg.sh.p2;have m1:=hg.sh.m1;have m8:=hg.sh.m8;have hq:=hg.sh.q;have p256:=hg.sh.p256;have hz:Av (p^m) x<p^m:=Cb (ϕ ac) x;generalize Av (p^m) x=z at *;have HK:=Aa (Qi (show 1<=p by omega) m z);have aD:Hia (∀k,k<m->Ev p (k+1) (fun j=>((p:Int)-AO p m z j)%(p:Int))=Ev p k (fun j=>((p:Int)-AO p m z j)%(p:Int))+((p:Int)-((z/p^k%p:Nat):Int))%(p:Int)*((p^k:Nat):Int)):=Aa (fun k hk=>by
  simp only[Ev];rw[OX hk])
 have HR:=Aa (fun k=>Dm (v:=fun j=>((p:Int)-AO p m z j)%(p:Int)) (fun j=>⟨γw _ ac,γi _ ac⟩) k);have HE:Hia (∀k,k<=m->z/p^k=0->((CL p m z:Nat):Int)=Ev p k (fun j=>((p:Int)-AO p m z j)%(p:Int))):=Aa (fun k hk h=>by
  rw[HK.o];refine LQ (fun j hj=>?_) m hk;rw[LD h ac hj];simp)
 obtain⟨aE,HM,HD,aL⟩:=Of (show ∀k,k<=m->p^k<=256 from fun k hk=>μ (ϝ ac hk) hq) (show ∀k,m<=k->z/p^k=0 from fun k hk=>δn (Δ hz (ϝ ac hk))) (show ∀k,z/p^(k+1)=z/p^k/p from fun k=>by rw[γp,δu]) (fun k=>γp p k);have z256:z<256:=by omega
 have aO:=Aa c0;clear hg c0 HK;obtain⟨C,hC⟩:∃C:Nat->Int,(fun k=>Ev p k (fun j=>((p:Int)-AO p m z j)%(p:Int)))=C:=⟨_,rfl⟩;have aC:∀k,Ev p k (fun j=>((p:Int)-AO p m z j)%(p:Int))=C k:=fun k=>congrFun hC k;simp only[aC]at aD HR HE;have aN:=Aa (show C 0=0 by rw[<-aC];rfl);clear hC aC hz;go_enter Tryz.func158,Tryz.ntmps158
 go_wp2_with fail
 refine HI.o.mono ?_;rintro e w1⟨rfl,n0,rfl⟩;go_wp2_with fail
 go_loopw [1,5,6] (fun z' o' q' wr=>∃k n:Nat,k<=m/\z'= .int .i64 ((z/p^k:Nat):Int)/\o'= .int .i64 (C k)/\q'= .int .i64 ((p^k:Nat):Int)/\wr=w.drewN n) (fun _ _ q' _=>300-(intOf q').toNat)
 case atStart=>exact⟨0,n0,ac,ag,by rw[aN.o],ag,rfl⟩
 case round=>
  obtain⟨k,n,hk,rfl,rfl,rfl,rfl⟩:=hrel;have hdz:z/p^k<=z:=ζo _ _;have hpl:=aE.o k hk;have hpp:1<=p^k:=ϕ ac;obtain⟨r1,r2⟩:=HR.o k;obtain⟨HS,aH,aG,aM,aF⟩:=On (aD.o k) (HE.o k hk) (HM.o k) (HD.o k) (aL.o k);have r0:=aO.o;generalize z/p^k=y at *;generalize p^k=pk at *;by_cases hy:y=0
  .subst hy;have HF:=Aa (aH.o rfl);go_wp2_with fail
   go_ret;exact⟨Ai HF.o.symm,n,rfl⟩
  .have aB:k<m:=by
    rcases ζq k m with h|h
    .exact h
    .exact absurd (aG.o h) hy
   have aK:=Aa (HS.o aB);have aA:=aE.o (k+1) aB;rw[aF.o]at aA;have aI:0<y:=ac;have hym:=ζv y (show 0<p by omega);have HYD:=Aa (Nat.div_lt_self aI (show 1<p by omega));have aJ:=Aa (Ie y p ac);have i1:(y:Int).tmod (p:Int)=((y%p:Nat):Int):=by rw[Φ ac];rfl
   generalize y%p=u at *;have d1:=γw ((p:Int)-u) (show(p:Int)≠0 by omega);have d2:=γi ((p:Int)-u) (show 0<(p:Int) by omega);have i3:((p:Int)-u).tmod (p:Int)=((p:Int)-u)%(p:Int):=Φ ac;generalize ((p:Int)-u)%(p:Int)=D at *;have d3:0<=D*(pk:Int):=δd d1 ac;have d4:D*(pk:Int)<=65536:=by
    exact zb7
   have d5:(pk:Int)*(p:Int)=((pk*p:Nat):Int):=ag;have d6:0<=(pk:Int)*(p:Int):=ac;have d7:(pk:Int)*(p:Int)<=256:=ac;have p0:¬p=0:=ac;have i2:IntKind.i64.wrap ((p:Int)-u)=(p:Int)-u:=ρ _ ac;have i4:IntKind.i64.wrap (D*(pk:Int))=D*(pk:Int):=ρ _ ac;have i5:IntKind.i64.wrap (C k+D*(pk:Int))=C k+D*(pk:Int):=ρ _ ac;clear HS aH aG hy;have D5:=Aa d5;have D8:=Aa (show(pk:Int)<(pk:Int)*(p:Int) by rw[d5];have:=ζx pk p2;omega);clear d5;go_wp2_with fail
   go_quiet (fail)
   clear i1 i2 i3 i4 i5;go_wp2_with fail
   go_roundw
   case rel=>exact⟨k+1,_,aB,by rw[aM.o,<-aJ.o],by rw[aK.o],by rw[aF.o,D5.o],rfl⟩
   case measure=>have h1:=D8.o;simp[intOf];omega
theorem OV{m z j:Nat}(hj:j<m):AO 2 m z j=if z.testBit j then 1 else 0:=by
 rw[OX hj,Nat.testBit_eq_decide_div_mod_eq];have:z/2^j%2=0∨z/2^j%2=1:=ac;rcases this with h|h <;> simp[h]
theorem Xf{m x y:Nat}(hx:x<2^m)(hy:y<2^m):AK 2 m x y=x ^^^ y:=by
 have hz:x ^^^ y<2^m:=μd hx hy;unfold AK;rw[<-J5 (m:=m) (show 1<=2 by omega) hz];refine Fl fun j=>?_;by_cases hj:j<m
 .rw[OV hj,OV hj,OV hj,Nat.testBit_xor];cases x.testBit j <;> cases y.testBit j <;> rfl
 .rw[Bu 2 m x j ac,Bu 2 m y j ac,Bu 2 m _ j ac];rfl
theorem zcJ{P:Prop}(h:P:=by
 rw[BitVec.ofInt_natCast,BitVec.toNat_ofNat];exact Nat.mod_eq_of_lt (by omega)):P:=h
theorem YN{x y:Nat}(hx:x<2^62)(hy:y<2^62):bits BinOp.xor IntKind.i64 (x:Int) (y:Int)=((x ^^^ y:Nat):Int):=by
 have hz:x ^^^ y<2^62:=μd hx hy;have h1:(BitVec.ofInt 64 (x:Int)).toNat=x:=by
  exact zcJ
 have h2:(BitVec.ofInt 64 (y:Int)).toNat=y:=by
  exact zcJ
 show IntKind.i64.wrap ((BitVec.ofInt 64 (x:Int) ^^^ BitVec.ofInt 64 (y:Int)).toNat:Int)=_
 rw[BitVec.toNat_xor,h1,h2,ρ _ ac]
theorem Km(w:World)(hg:Bh w b p m ml x0)(x y:Int):
  Calls Tryz.prog 163 #[(b,0),x,y] w (Qt w (.int .i64 (AK p m (Av (p^m) x) (Av (p^m) y):Nat))):=by
 have HI:=Aa (fun n x=>Hy (w.drewN n) (hg.drewN n) x);have aN:=Aa (Hy w hg x);have c0:=hg.c0;have p2:=hg.sh.p2;have m1:=hg.sh.m1;have m8:=hg.sh.m8;have hq:=hg.sh.q;have p256:=hg.sh.p256;have hz:Av (p^m) x<p^m:=Cb (ϕ ac) x;have ht:Av (p^m) y<p^m:=Cb (ϕ ac) y;have aM:=Aa (fun n=>HI.o n y);clear HI;generalize Av (p^m) x=z at *;generalize Av (p^m) y=s at *;have z256:z<256:=bz;have s256:s<256:=ac;have aF:=Aa c0;by_cases h2:p=2
 .subst h2;have HX:=Aa (Xf hz ht);have HB:=Aa (YN (x:=z) (y:=s) ac ac);clear hg c0 hz ht hq;go_enter Tryz.func163,Tryz.ntmps163
  go_wp2_with fail
  refine aN.o.mono ?_;rintro e w1⟨rfl,n0,rfl⟩;go_wp2_with fail
  refine(aM.o n0).mono ?_;rintro e w1⟨rfl,n1,rfl⟩;have c0:=aF.o;go_wp2_with fail
  go_ret;exact⟨Ai (by rw[HX.o,<-HB.o]),_,rfl⟩
 .have HK:=Aa (Qj (show 1<=p by omega) m z s);have aI:Hia (∀k,k<m->Ev p (k+1) (fun j=>(AO p m z j+AO p m s j)%(p:Int))=Ev p k (fun j=>(AO p m z j+AO p m s j)%(p:Int))+(((z/p^k%p:Nat):Int)+((s/p^k%p:Nat):Int))%(p:Int)*((p^k:Nat):Int)):=Aa (fun k hk=>by
   simp only[Ev];rw[OX hk,OX hk])
  have HR:=Aa (fun k=>Dm (v:=fun j=>(AO p m z j+AO p m s j)%(p:Int)) (fun j=>⟨γw _ ac,γi _ ac⟩) k);have HE:Hia (∀k,k<=m->z/p^k=0->s/p^k=0->((AK p m z s:Nat):Int)=Ev p k (fun j=>(AO p m z j+AO p m s j)%(p:Int))):=Aa (fun k hk h h'=>by
   rw[HK.o];refine LQ (fun j hj=>?_) m hk;rw[LD h ac hj,LD h' ac hj];simp)
  obtain⟨aJ,HM,aU,HD,aT⟩:=On (show ∀k,k<=m->p^k<=256 from fun k hk=>μ (ϝ ac hk) hq) (show ∀k,m<=k->z/p^k=0 from fun k hk=>δn (Δ hz (ϝ ac hk))) (show ∀k,m<=k->s/p^k=0 from fun k hk=>δn (Δ ht (ϝ ac hk))) (show ∀z k,z/p^(k+1)=z/p^k/p from fun z k=>by rw[γp,δu]) (fun k=>γp p k);have hp2:((p:Int)==2)=false:=by simp;omega
  clear hg c0 HK;obtain⟨C,hC⟩:∃C:Nat->Int,(fun k=>Ev p k (fun j=>(AO p m z j+AO p m s j)%(p:Int)))=C:=⟨_,rfl⟩;have aD:∀k,Ev p k (fun j=>(AO p m z j+AO p m s j)%(p:Int))=C k:=fun k=>congrFun hC k;simp only[aD]at aI HR HE;have aW:=Aa (show C 0=0 by rw[<-aD];rfl);clear hC aD hz ht h2;go_enter Tryz.func163,Tryz.ntmps163
  go_wp2_with fail
  refine aN.o.mono ?_;rintro e w1⟨rfl,n0,rfl⟩;go_wp2_with fail
  refine(aM.o n0).mono ?_;rintro e w1⟨rfl,n1,rfl⟩;have c0:=aF.o;go_wp2_with fail
  clear c0
  go_loopw [1,2,7,8] (fun z' s' o' q' wr=>∃k n:Nat,k<=m/\z'= .int .i64 ((z/p^k:Nat):Int)/\s'= .int .i64 ((s/p^k:Nat):Int)/\o'= .int .i64 (C k)/\q'= .int .i64 ((p^k:Nat):Int)/\wr=w.drewN n) (fun _ _ _ q' _=>300-(intOf q').toNat)
  case atStart=>exact⟨0,_,ac,ag,ag,by rw[aW.o],ag,rfl⟩
  case round=>
   obtain⟨k,n,hk,rfl,rfl,rfl,rfl,rfl⟩:=hrel;have hdz:z/p^k<=z:=ζo _ _;have hds:s/p^k<=s:=ζo _ _;have hpl:=aJ.o k hk;have hpp:1<=p^k:=ϕ ac;obtain⟨r1,r2⟩:=HR.o k;obtain⟨HS,aO,aL,aK,aQ,aP,aE⟩:=To (aI.o k) (HE.o k hk) (HM.o k) (aU.o k) (HD.o z k) (HD.o s k) (aT.o k);have r0:=aF.o;generalize z/p^k=y at *;generalize s/p^k=t at *;generalize p^k=pk at *;by_cases hy:y=0/\t=0
   .obtain⟨rfl,rfl⟩:=hy;have HF:=Aa (aO.o rfl rfl);go_wp2_with fail
    go_ret;exact⟨Ai HF.o.symm,n,rfl⟩
   .have aA:k<m:=by
     rcases ζq k m with h|h
     .exact h
     .exact absurd ⟨aL.o h,aK.o h⟩ hy
    have aB:=Aa (HS.o aA);have aC:=aJ.o (k+1) aA;rw[aE.o]at aC;have hc:0<y∨(y=0/\0<t):=ac;have aR:=ζv y (show 0<p by omega);have htm:=ζv t (show 0<p by omega);have aS:=Aa (Ie y p ac);have aH:=Aa (Ie t p ac);have i1:(y:Int).tmod (p:Int)=((y%p:Nat):Int):=by rw[Φ ac];rfl
    have aG:(t:Int).tmod (p:Int)=((t%p:Nat):Int):=by rw[Φ ac];rfl
    obtain⟨u,hu⟩:=nA (y%p);have HU:=Aa hu;rw[hu]at aR i1 aB;clear hu;generalize t%p=v at *;have d1:=γw ((u:Int)+v) (show(p:Int)≠0 by omega);have d2:=γi ((u:Int)+v) (show 0<(p:Int) by omega);have i3:((u:Int)+v).tmod (p:Int)=((u:Int)+v)%(p:Int):=Φ ac;obtain⟨D,hD⟩:=nA (((u:Int)+v)%(p:Int));have aV:=Aa hD;rw[hD]at d1 d2 i3 aB;clear hD;have d3:0<=D*(pk:Int):=δd d1 ac;have d4:D*(pk:Int)<=65536:=by
     exact zb7
    have d5:(pk:Int)*(p:Int)=((pk*p:Nat):Int):=ag;have d6:0<=(pk:Int)*(p:Int):=ac;have d7:(pk:Int)*(p:Int)<=256:=ac;have p0:¬p=0:=ac;have i2:IntKind.i64.wrap ((u:Int)+v)=(u:Int)+v:=ρ _ ac;have i4:IntKind.i64.wrap (D*(pk:Int))=D*(pk:Int):=ρ _ ac;have i5:IntKind.i64.wrap (C k+D*(pk:Int))=C k+D*(pk:Int):=ρ _ ac;clear HS aO aL aK hy;have D5:=Aa d5;have D8:=Aa (show(pk:Int)<(pk:Int)*(p:Int) by rw[d5];have:=ζx pk p2;omega);clear d5;rcases hc with hc|⟨hc1,hc2⟩
    .have hb1:decide (0<(y:Int))=true:=by simpa using hc
     go_wp2_with fail
     go_quiet (fail)
     clear i1 aG i2 i3 i4 i5;go_wp2_with fail
     go_roundw
     case rel=>exact⟨k+1,_,aA,by rw[aQ.o,<-aS.o],by rw[aP.o,<-aH.o],by rw[aB.o],by rw[aE.o,D5.o],rfl⟩
     case measure=>have h1:=D8.o;simp[intOf];omega
    .have hb2:decide (0<(t:Int))=true:=by simpa using hc2
     subst hc1;obtain rfl:u=0:=by rw[<-HU.o,Nat.zero_mod]
     have i6:IntKind.i64.wrap (v:Int)=(v:Int):=ρ _ ac;have i7:(v:Int).tmod (p:Int)=D:=by rw[Φ ac,<-aV.o];simp
     have HZ:=Aa (show(0:Nat)/p=0 from μj p);clear i1 i2 i3;go_wp2_with fail
     go_quiet (fail)
     clear aG i4 i5 i6 i7;go_wp2_with fail
     go_roundw
     case rel=>exact⟨k+1,_,aA,by rw[aQ.o,HZ.o];rfl,by rw[aP.o,<-aH.o],by rw[aB.o],by rw[aE.o,D5.o],rfl⟩
     case measure=>have h1:=D8.o;simp[intOf];omega
end
end Go.Proofs.YtehieobniamagaaGreat
