/- The values of a long region whose operations fill one slot after the other. -/
import Derived.Test.YtehieobniamagaaGreatZp01
import Derived.Test.YtehieobniamagaaGreatZp03
import Derived.Test.YtehieobniamagaaGreatZp04
import Derived.Test.YtehieobniamagaaGreatZp05
namespace Go.Proofs.YtehieobniamagaaGreat
set_option linter.unusedVariables false
set_option linter.unusedSimpArgs false
set_option maxRecDepth 100000
set_option maxHeartbeats 4000000
section
open Go.RowKit
def Mz:List Oper->Nat->Bool
 | [],_=>true
 | o :: l,s=>(o.dst==some s)&&Mz l (s+1)
theorem P7:∀(A:List Value) (x v:Value) (C:List Value),(A++x :: C).set A.length v=A++v :: C
 | [],x,v,C=>rfl
 | a :: A,x,v,C=>by
  show a :: (A++x :: C).set A.length v=_
  rw[P7 A x v C];rfl
def Na(V:Nat->Value):Nat->Nat->List Value
 | _,0=> []
 | k,n+1=>V k :: Na V (k+1) n
theorem Nt:∀(l:List Oper) (V:Nat->Value) (k:Nat) (A B C:List Value) (D:List Deferred),B.length=l.length->Mz l A.length=true->BU l V k ⟨(A++(B++C)).toArray,D⟩=⟨(A++(Na V k l.length++C)).toArray,D⟩
 | [],V,k,A,B,C,D,hB,_=>by
  have:B= []:=List.length_eq_zero_iff.1 hB;subst this;rfl
 | o :: l,V,k,A, [],C,D,hB,_=>by simp at hB
 | o :: l,V,k,A,x :: B,C,D,hB,h=>by
  unfold Mz at h;rw[Bool.and_eq_true,beq_iff_eq]at h;have e:Act.put ⟨(A++(x :: B++C)).toArray,D⟩ o.dst (V k)=⟨((A ++ [V k])++(B++C)).toArray,D⟩:=by
   rw[h.1];show Act.mk ((A++(x :: B++C)).toArray.setIfInBounds A.length (V k)) D=_
   congr 1
   rw[List.setIfInBounds_toArray];have:=P7 A x (V k) (B++C);rw[show x :: B++C=x :: (B++C) from rfl,this];simp
  show BU l V (k+1) (Act.put ⟨(A++(x :: B++C)).toArray,D⟩ o.dst (V k))=_
  rw[e,Nt l V (k+1) (A ++ [V k]) B C D (by simpa using hB) (by rw[List.length_append];exact h.2)];show _=Act.mk (A++(V k :: Na V (k+1) l.length++C)).toArray D
  simp
theorem I4:∀(vals aA:List Value),Na (fun k=>(aA++vals).getD k undef) aA.length vals.length=vals
 | [],aA=>rfl
 | v :: vals,aA=>by
  show(aA++v :: vals).getD aA.length undef :: Na (fun k=>(aA++v :: vals).getD k undef) (aA.length+1) vals.length=v :: vals
  have h1:(aA++v :: vals).getD aA.length undef=v:=by
   rw[List.getD_eq_getElem?_getD,List.getElem?_append_right (Nat.le_refl _)];simp
  have h2:=I4 vals (aA ++ [v]);rw[List.length_append,List.append_assoc]at h2;rw[h1];exact congrArg (v :: ·) h2
theorem b9{P:Prop}(h:P:=by rw[List.length_take];omega):P:=h
theorem Qe{l:List Oper}{vals a:List Value}{D:List Deferred}{P:Act}(hP:BU l (fun k=>vals.getD k undef) 0 ⟨a.toArray,D⟩=P)(s t:Nat)(h:(Mz l s&&(vals.length==l.length&&(s+l.length==t&&decide (t<=a.length))))=true):P=⟨(a.take s++(vals++a.drop t)).toArray,D⟩:=by
 simp only[Bool.and_eq_true,beq_iff_eq,decide_eq_true_eq]at h;obtain⟨h1,h2,h3,h4⟩:=h;subst hP;have e:a=a.take s++((a.drop s).take l.length++a.drop t):=by
  rw[<-h3,<-List.drop_drop,List.take_append_drop,List.take_append_drop]
 have h5:(a.take s).length=s:=b9;have h6:((a.drop s).take l.length).length=l.length:=by rw[List.length_take,List.length_drop];omega
 have h7:=Nt l (fun k=>vals.getD k undef) 0 (a.take s) ((a.drop s).take l.length) (a.drop t) D h6 (by rw[h5];exact h1);rw[<-e]at h7;rw[h7,<-h2];have:=I4 vals [];simp only[List.nil_append,List.length_nil]at this;rw[this]
def VK:List Oper->Nat->Nat->Option Nat
 | [],_,_=>none
 | o :: l,k,t=>if (o.dst==some t)=true then some k else VK l (k+1) t
theorem Jy:∀(l:List Oper) (k t j:Nat),VK l k t=some j->∃o,k<=j/\l[j-k]?=some o/\o.dst=some t
 | [],k,t,j,h=>by cases h
 | o :: l,k,t,j,h=>by
  unfold VK at h;split at h
  .rename_i h1;injection h with h;subst h;exact⟨o,Nat.le_refl _,by simp,by simpa using h1⟩
  .obtain⟨o',h2,h3,h4⟩:=Jy l (k+1) t j h;refine⟨o',ac,?_,h4⟩;rw[show j-k=(j-(k+1))+1 from ac];exact h3
theorem Jz:∀(l:List Oper) (k t:Nat),VK l k t=none->(l.all fun o=>o.dst !=some t)=true
 | [],k,t,h=>rfl
 | o :: l,k,t,h=>by
  unfold VK at h;split at h
  .cases h
  .rename_i h1;rw[List.all_cons,Jz l (k+1) t h,Bool.and_true];simpa using h1
def ZT(l:List Oper)(pv:Nat->Value)(a0:Act)(o:Oper)(t:Nat):Option Value:=match VK l 0 t with
 | some j=>if (o.after.toList.any fun e=>e.on==j&&Region.binds .any e)=true then some (pv j) else none
 | none=>a0.tmps[t]?
theorem Bl.go{P:Program}{Q:Exit->Act->World->Prop}{a0:Act}{l:List Oper}{pv:Nat->Value}{w:World}{i:Nat}{o:Oper}(hw:Gv l pv o=true)
  (h:∀(a:Act) (w':World),(∀t v,ZT l pv a0 o t=some v->a.tmps[t]?=some v)->Ex w w'->∀K:Act->World->Prop,(∀w'',Ex w' w''->K (a.put o.dst (pv i)) w'')->o.wp P a w' K Q):Bl P Q l a0 pv w i o:=
 Bl.on hw fun L a w' aB aA hd hx K hK=>h a w' (fun t v hv=>by
  unfold ZT at hv
  cases hj:VK l 0 t with
  | none=>
   rw[hj]at hv;rw[aA t (Jz l 0 t hj)];exact hv
  | some j=>
   rw[hj]at hv;obtain⟨o',_,h2,h3⟩:=Jy l 0 t j hj;simp only at hv;split at hv
   .rename_i h4;injection hv with hv;obtain⟨e,he,h5⟩:=List.any_eq_true.1 h4;have he:=Array.mem_toList_iff.1 he;rw[Bool.and_eq_true,beq_iff_eq]at h5;have hL:=hd e he h5.2;rw[h5.1]at hL;rw[<-hv];exact aB j t o' hL h2 h3
   .cases hv) hx K hK
theorem Bl.gd{P:Program}{Q:Exit->Act->World->Prop}{a0:Act}{l:List Oper}{pv:Nat->Value}{w:World}{i:Nat}{o:Oper}(c:Bool)
  (h:c=false->∀(a:Act) (w':World),(∀t v,ZT l pv a0 o t=some v->a.tmps[t]?=some v)->Ex w w'->∀K:Act->World->Prop,(∀w'',Ex w' w''->K (a.put o.dst (pv i)) w'')->o.wp P a w' K Q)
  (h1:c=true->Gv l pv o=false/\pv i=undef:=by rintro rfl;exact⟨rfl,rfl⟩) (h2:c=false->Gv l pv o=true:=by rintro rfl;rfl):Bl P Q l a0 pv w i o:=by
 cases c with
 | true=>exact Bl.off (h1 rfl).1 (h1 rfl).2
 | false=>exact Bl.go (h2 rfl) (h rfl)
theorem Qi{A:Sort _}(x:A):∃y,Hia (x=y):=⟨x,rfl⟩
end
section
open Go.RowKit
def Zj(l:List Oper)(pv:Nat->Value)(a0:Act)(m ib ia:Nat)(o:Oper)(t:Nat):Option Value:=match VK l 0 t with
 | some j=>if (decide (j<m)&&j !=ib&&j !=ia&&(o.after.toList.any fun e=>e.on==j&&Region.binds .any e))=true then some (pv j) else none
 | none=>a0.tmps[t]?
section
variable {P:Program} {Q:Exit->Act->World->Prop} {a0:Act} {l:List Oper} {pv:Nat->Value} {wr:World} {ib ia fa m i:Nat} {o:Oper}
theorem Qp{L:Nat->Bool}{a:Act}(aB:∀k t o',L k=true->k<m->k≠ib->k≠ia->l[k]?=some o'->o'.dst=some t->a.tmps[t]?=some (pv k))(aA:∀t,(l.all fun o=>o.dst !=some t)=true->a.tmps[t]?=a0.tmps[t]?)(hd:∀e∈o.after,Region.binds .any e=true->L e.on=true):
  ∀t v,Zj l pv a0 m ib ia o t=some v->a.tmps[t]?=some v:=fun t v hv=>by
 unfold Zj at hv
 cases hj:VK l 0 t with
 | none=>rw[hj]at hv;rw[aA t (Jz l 0 t hj)];exact hv
 | some j=>
  rw[hj]at hv;obtain⟨o',_,h2,h3⟩:=Jy l 0 t j hj;simp only at hv;split at hv
  .rename_i h4;injection hv with hv;simp only[Bool.and_eq_true,decide_eq_true_eq,bne_iff_ne,ne_eq]at h4;obtain⟨e,he,h5⟩:=List.any_eq_true.1 h4.2;have he:=Array.mem_toList_iff.1 he;rw[Bool.and_eq_true,beq_iff_eq]at h5;have hL:=hd e he h5.2;rw[h5.1]at hL;rw[<-hv];exact aB j t o' hL h4.1.1.1 h4.1.1.2 h4.1.2 h2 h3
  .cases hv
theorem EL.go(hi:¬i=fa/\¬(i=m∨i=ia)/\¬i=ib)(h:∀(a:Act) (w:World),(∀t v,Zj l pv a0 m ib ia o t=some v->a.tmps[t]?=some v)->Ex wr w->∀K:Act->World->Prop,(∀w',Ex w w'->K (a.put o.dst (pv i)) w')->o.wp P a w K Q):EL P Q l a0 pv wr ib ia fa m i o:=by
 intro L a w aB aA hd K;rw[if_neg hi.1,if_neg hi.2.1,if_neg hi.2.2];intro hx hK;exact h a w (Qp aB aA hd) hx K hK
theorem EL.gf(hi:i=fa)(h:∀(a:Act) (w:World),(∀t v,Zj l pv a0 m ib ia o t=some v->a.tmps[t]?=some v)->∀K:Act->World->Prop,K (a.put o.dst (pv i)) w->o.wp P a w K Q):EL P Q l a0 pv wr ib ia fa m i o:=by
 intro L a w aB aA hd K;rw[if_pos hi];intro hK;exact h a w (Qp aB aA hd) K hK
theorem EL.sk(hi:¬i=fa/\(i=m∨i=ia∨i=ib)):EL P Q l a0 pv wr ib ia fa m i o:=by
 intro L a w hin hout hd K;rw[if_neg hi.1];by_cases h:i=m∨i=ia
 .rw[if_pos h];trivial
 .have hb:i=ib:=by
   rcases hi.2 with e|e|e
   .exact absurd (.inl e) h
   .exact absurd (.inr e) h
   .exact e
  rw[if_neg h,if_pos hb];intro _;trivial
end
section
variable {P:Program} {Q:Exit->Act->World->Prop} {a0:Act} {l:List Oper} {pv:Nat->Value} {wr:World} {ia m i:Nat} {o:Oper} {A Fin:Value->World->Prop}
end
end
section
open Go.RowKit
section
variable {p m:Nat} {ml:List Int} {mv:Value}
end
end
section
open Go.RowKit
def AQ(w:World)(base:Nat)(e:TypeId)(g n cap:Nat)(c:Nat->Value):Prop:=w.ownsRow base e 1 (.slice (some ⟨g,0,none⟩) n cap) n (vs n c)
section
variable {w:World} {base:Nat} {e:TypeId} {g n cap:Nat} {c:Nat->Value}
theorem AQ.cell(h:AQ w base e g n cap c){j:Nat}(hj:j<n):w.cell? ⟨g,j,none⟩=some (c j):=by
 rw[World.ownsRow.cellAt h j ac,Dy hj]
theorem AQ.frz(h:AQ w base e g n cap c)(j:Nat):w.frozen? ⟨g,j,none⟩=false:=World.ownsRow.frozenAt h j
theorem AQ.set(h:AQ w base e g n cap c)(j:Nat)(u:Value):AQ (w.setCell ⟨g,j,none⟩ u) base e g n cap (Ax c j u):=by
 have:=(World.ownsRow.stored h j u).1
 rwa[Sp]at this
theorem AQ.congr{d:Nat->Value}(h:AQ w base e g n cap c)(hc:∀j,j<n->c j=d j):AQ w base e g n cap d:=by
 unfold AQ at *
 rwa[M8 hc]at h
theorem AQ.icongr{f k:Nat->Int}(h:AQ w base e g n cap (iv f))(hc:∀j,j<n->f j=k j):AQ w base e g n cap (iv k):=
 h.congr fun j hj=>congrArg (Value.int .i64) (hc j hj)
theorem AQ.ex{w':World}(h:AQ w base e g n cap c)(hx:Ex w w'):AQ w' base e g n cap c:=Ai h hx
theorem AQ.drew(h:AQ w base e g n cap c):AQ w.drew base e g n cap c:=h
theorem AQ.drewN(h:AQ w base e g n cap c)(k:Nat):AQ (w.drewN k) base e g n cap c:=h.ex ((Ex.refl w).drewN k)
theorem AQ.lt(h:AQ w base e g n cap c):base<=g/\g<w.heap.size:=World.ownsRow.lt h g rfl
theorem AQ.caps(h:AQ w base e g n cap c):n<=cap/\cap<=maxLen:=by
 rcases h.2 with⟨h',_⟩|⟨g',cap',cur,h',_,hg,h1,h2,_⟩
 .simp at h'
 .simp only[Value.slice.injEq,Option.some.injEq,Addr.mk.injEq,and_true,true_and]at h';obtain⟨_,rfl⟩:=h';exact⟨h1,h2⟩
theorem AQ.other(h:AQ w base e g n cap c){a:Addr}(ha:g≠a.block)(u:Value):AQ (w.setCell a u) base e g n cap c:=
 Ad h (fun e=>ha (by simpa[Value.ownBlock]using e)) u
theorem AQ.exSet{a:World}(h:AQ w base e g n cap c)(hb:a.heap.size<=base)(hx:Ex a w)(j:Nat)(u:Value):Ex a (w.setCell ⟨g,j,none⟩ u):=
 hx.setCell (p:=⟨g,j,none⟩) (Nat.le_trans hb h.lt.1) u
theorem AQ.sl(h:AQ w base e g n cap c):Sl w (.slice (some ⟨g,0,none⟩) n cap) n 1 (vs n c):=Sl.own h
theorem AQ.isl{f:Nat->Int}(h:AQ w base e g n cap (iv f)):Ak w (.slice (some ⟨g,0,none⟩) n cap) (il n f):=by
 unfold Ak;rw[Aj,Ch];exact h.sl
theorem L6{v:Value}(h:w.ownsRow base e 1 v n (vs n c))(hn:1<=n):∃g cap,v= .slice (some ⟨g,0,none⟩) n cap/\AQ w base e g n cap c:=by
 rcases h.2 with⟨_,h0⟩|⟨g,cap,cur,rfl,_⟩
 .omega
 .exact⟨g,cap,rfl,h⟩
end
end
section
open Go.RowKit
def Kh(ml:List Int):Vc:=fun j=>if j<ml.length then ml.getD j 0 else if j=ml.length then 1 else 0
def N5(p d:Nat)(low:Vc)(ml:List Int):Bool:=(List.range d).all fun j=>ap d low (ml.length+1) (Kh ml) Aq j%(p:Int)==0
def Ze(p d:Nat)(low:Vc)(i j:Nat)(c0 c:Vc):Prop:=BT p (fun t=>ap d low i c Aq t) (fun t=>ap d low i c0 Aq t-c0 i*CU d low (i-d) (ap d low j low Aq) t)
theorem XZ{p d:Nat}{low:Vc}{ml:List Int}{c:Vc}(hc:∀j,0<=c j/\c j<p)(h:BT p (ap d low d c Aq) (ap d low (ml.length+1) (Kh ml) Aq)):
  N5 p d low ml=(List.range d).all fun j=>c j==0:=by
 unfold N5;rw[Bool.eq_iff_iff,List.all_eq_true,List.all_eq_true];have aA:∀j,j<d->ap d low (ml.length+1) (Kh ml) Aq j%(p:Int)=c j:=fun j hj=>by
  rw[<-h j,J3 d c (Nat.le_refl _)];dsimp only;rw[if_pos hj];exact Int.emod_eq_of_lt (hc j).1 (hc j).2
 constructor
 .intro h1 j hj;have:=h1 j hj
  rwa[aA j (List.mem_range.1 hj)]at this
 .intro h1 j hj;have:=h1 j hj
  rwa[aA j (List.mem_range.1 hj)]
theorem Tl(ml:List Int):Am ml ++ [.int .i64 1]=vs (ml.length+1) (iv (Kh ml)):=by
 apply List.ext_getElem?;intro j;by_cases h1:j<ml.length
 .rw[List.getElem?_append_left (by rw[AP];exact h1),Dy ac];unfold iv Kh;rw[if_pos h1];simp[Am,h1,List.getD_eq_getElem?_getD]
 .rw[List.getElem?_append_right (by rw[AP];omega),AP];by_cases h2:j=ml.length
  .subst h2;rw[Dy ac];unfold iv Kh;simp
  .rw[show(vs (ml.length+1) (iv (Kh ml)))[j]?=none by rw[List.getElem?_eq_none_iff,Bm];omega];rw[List.getElem?_eq_none_iff];simp;omega
theorem N7(p d:Nat)(low:Vc)(ml:List Int)(lv mv:Value)(w:World)(hp:2<=p)(hp':p<=256)(hd:1<=d)(hdm:d<=ml.length)(hm8:ml.length<=8)
  (bF:Ak w lv (il d low)) (bG:∀j,0<=low j/\low j<p) (bC:Ak w mv ml) (bD:∀x∈ml,0<=x/\x<p):
  Calls Tryz.prog 170 #[lv,mv,.int .i64 p] w fun r w'=>r= .returned (.bool (N5 p d low ml))/\Ex w w':=by
 obtain⟨la,lc,rfl,l1,l2,l3⟩:=bF.open;rw[Aj]at *;obtain⟨lb,lo,rfl,l4⟩:=l3 ac;have L4:=Aa (fun j (hj:j<d)=>l4 j _ (AH hj low));have cA:=Aa bC;have aY:=Aa (show ∀j,0<=Kh ml j/\Kh ml j<p from fun j=>by
  unfold Kh;split
  .rename_i h;rw[List.getD_eq_getElem?_getD,List.getElem?_eq_getElem h];exact bD _ (List.getElem_mem h)
  .split <;> omega)
 have bP:=Aa (fun c h1 h2=>XZ (p:=p) (d:=d) (low:=low) (ml:=ml) (c:=c) h1 h2);have cB:=Aa (Tl ml);have cC:=Aa bG;have bE:∀u∈Am ml,u.oneCell'=true:=by
  intro u hu;obtain⟨z,_,rfl⟩:=List.mem_map.1 hu;rfl
 have bZ:=Aa bE;unfold maxLen at l2;clear bF bC bD l3 l4 bG bE;go_enter Tryz.func170,Tryz.ntmps170
 go_wp2_with (at_builtin;refine Bd _ rfl _ _ 22 rfl w.heap.size 3 (.int .i64 0) 1 8 Tryz.underlying22 Aw rfl ae _ 0 [] rfl (Bp w 3) mv ml.length (Am ml) rfl (cA.o.ex ((Ex.refl w).alloc _)) bZ.o ai ac ag ?_)
 intro v1 w1 aC bH bJ;have aM:Ex w w1:=Ex.grown ((Ex.refl w).alloc _) (Bp w 3) (Nat.le_refl _) bH;obtain⟨va,vc,rfl⟩:=Ac aC;have bK:=Aa aM;have bN:=Aa aC;have bQ:=Aa aM.size;clear bH bJ aC aM;go_wp2_with (at_builtin;refine Al _ rfl _ _ 22 rfl w.heap.size 3 (.int .i64 0) 1 8 Tryz.underlying22 Aw rfl ae _ ml.length _ rfl bN.o [.int .i64 1] 3 _ rfl ag rfl ak ai ac bQ.o ?_)
 intro v2 w2 aF;have aB:=aF.own;rw[cB.o]at aB;obtain⟨g,cap,rfl,aD⟩:=L6 aB ac;have aZ:=aF.ex bK.o (Nat.le_refl _);have aQ:=aD.caps;obtain⟨k1,k2⟩:=aQ;unfold maxLen at k2;have bM:=Aa aD;have aJ:=Aa (show ∀j,ml.length+1<=j->j<ml.length+1->Kh ml j=0 from fun j a b=>ac);have aU:=Aa (show ∀(a:Nat) (c:Nat->Int),Ze p d low a 0 c c from fun a c=>KR (m:=d) (low:=low) p c);have aV:=Aa (show ∀(a j:Nat) (c c0:Nat->Int),d<=a->j<d->Ze p d low a j c0 c->c a=c0 a->Ze p d low a (j+1) c0 (Gz c (a-d+j) ((c (a-d+j)+((p:Int)-c a)*low j)%(p:Int))) from fun a j c c0 h1 h2 h3 h4=>Nr (m:=d) (low:=low) (T:=c0) h1 h2 h3 h4);have aW:=Aa (show ∀(a:Nat) (c c0:Nat->Int) (T:Vc),d<=a->BT p (ap d low (a+1) c0 Aq) T->Ze p d low a d c0 c->BT p (ap d low a c Aq) T from fun a c c0 T h1 h2 h3=>Qc (m:=d) (low:=low) hd h1 h2 h3);have bW:=Aa (show ∀(a:Nat) (c:Nat->Int) v,ap d low a (Gz c a v) Aq=ap d low a c Aq from fun a c v=>Li (Nat.le_refl _));obtain⟨T,aR⟩:=nA (ap d low (ml.length+1) (Kh ml) Aq);rw[aR]at bP;have bO:=Aa (show BT p (ap d low (ml.length+1) (Kh ml) Aq) T by rw[aR];exact BT.refl _ _);clear aR;clear aF aB aD bK bN bQ;go_wp2_with fail
 go_loopw [9,10,11] (fun i' _ _ wr=>∃(a:Nat) (c:Nat->Int),d<=a/\a<=ml.length+1/\i'= .int .i64 ((a:Int)-1)/\Hia (AQ wr w.heap.size 3 g (ml.length+1) cap (iv c))/\Hia (∀j,0<=c j/\c j<p)/\Hia (BT p (ap d low a c Aq) T)/\Hia (∀j,a<=j->j<ml.length+1->c j=0)/\Ex w wr) (fun i' _ _ _=>(intOf i'+1).toNat)
 case atStart=>exact⟨ml.length+1,Kh ml,ac,ac,by go_num,bM,aY,bO,aJ,aZ⟩
 case round=>
  clear bM bO aJ aZ;obtain⟨a,c,bJ,ha2,rfl,aA,aP,hT,hz,hx⟩:=hrel;by_cases hai:d<a
  .obtain⟨b,rfl⟩:∃b,a=b+1:=⟨a-1,ac⟩;have eb:(((b+1:Nat)):Int)-1=b:=by omega
   rw[eb];have aO:d<=b:=ac;have hdb':(d:Int)<=(b:Int):=ac;have bI:b<ml.length+1:=ac;have aN:wr.cell? ⟨g,b,none⟩=some (.int .i64 (c b)):=aA.o.cell bI;clear eb hai;obtain⟨wo,rfl⟩:∃wo:World,wo=wr:=⟨_,rfl⟩;have bL:=Aa (aU.o b c);go_wp2_with fail
   clear aN
   go_loopw [11] (fun j' wr=>∃(j:Nat) (c':Nat->Int),j<=d/\j'= .int .i64 j/\Hia (AQ wr w.heap.size 3 g (ml.length+1) cap (iv c'))/\Hia (∀j,0<=c' j/\c' j<p)/\Hia (Ze p d low b j c c')/\Hia (∀l,b<=l->c' l=c l)/\Ex w wr) (fun j' _=>d-(intOf j').toNat)
   case atStart=>exact⟨0,c,ac,rfl,aA,aP,bL,Aa (fun l _=>rfl),hx⟩
   case round=>
    clear aA hx bL;obtain⟨j,c',hj,rfl,aA,aE,bB,aL,hx⟩:=hrel;by_cases hlj:j<d
    .have hlw:=hx.cell (L4.o j hlj);have aG:=Aa (aV.o b j c' c aO hlj bB.o (aL.o b (Nat.le_refl _)));have bT:b-d+j<ml.length+1:=by omega
     have bS:b-d+j<b:=ac;have hvj:wr.cell? ⟨g,b-d+j,none⟩=some (.int .i64 (c' (b-d+j))):=aA.o.cell bT;have bR:=aA.o.frz (b-d+j);have aH:=aL.o b (Nat.le_refl _);rw[aH]at aG;obtain⟨u1,u2⟩:=aP.o b;obtain⟨v1,v2⟩:=aE.o (b-d+j);obtain⟨q1,q2⟩:=cC.o j;obtain⟨D,hD⟩:=nA ((c' (b-d+j)+((p:Int)-c b)*low j)%(p:Int));have bV:0<=D/\D<p:=bn;rw[hD]at aG;have aT:=Aa (aA.o.set (b-d+j) (.int .i64 D));have aS:=Aa (aA.o.exSet (Nat.le_refl _) hx (b-d+j) (.int .i64 D));have aX:=Aa (show ∀l,0<=Ax c' (b-d+j) D l/\Ax c' (b-d+j) D l<p from fun l=>by
      unfold Ax;split
      .exact bV
      .exact aE.o l)
     have cD:=Aa (show ∀l,b<=l->Ax c' (b-d+j) D l=c l from fun l hl=>by rw[Ae _ _ ac];exact aL.o l hl);generalize low j=lj at *;generalize c b=cb at *;have e3:0<=((p:Int)-cb)*lj:=Int.mul_nonneg ac q1;have e4:((p:Int)-cb)*lj<=65536:=by
      have:=Int.mul_le_mul (show(p:Int)-cb<=256 by omega) (show lj<=256 by omega) q1 ac;omega
     have i1:IntKind.i64.wrap ((b:Int)-d)=(b:Int)-d:=IntWalk.i64_in _ ac;have i2:IntKind.i64.wrap ((b:Int)-d+j)=(b:Int)-d+j:=IntWalk.i64_in _ ac;have i3:IntKind.i64.wrap ((p:Int)-cb)=(p:Int)-cb:=IntWalk.i64_in _ ac;have i4:IntKind.i64.wrap (((p:Int)-cb)*lj)=((p:Int)-cb)*lj:=IntWalk.i64_in _ ac;have i5:IntKind.i64.wrap (c' (b-d+j)+((p:Int)-cb)*lj)=c' (b-d+j)+((p:Int)-cb)*lj:=IntWalk.i64_in _ ac;have i6:(c' (b-d+j)+((p:Int)-cb)*lj).tmod (p:Int)=D:=dl;have i7:((b:Int)-d+j).toNat=b-d+j:=ac;have i8:0<=(b:Int)-d+j:=ac;have i9:(b:Int)-d+j<(ml.length:Int)+1:=ac;have p0:¬p=0:=ac;clear hD bS aH;go_wp2_with fail
     go_still_tail 26,ah
     change wpList _ _ _ _ _ wr.drew
     go_wp2_with fail
     go_roundw
     case rel=>exact⟨j+1,Ax c' (b-d+j) D,ac,by go_num,Aa (by have:=aT.o.drew;rwa[Cy]at this),aX,aG,cD,aS.o.drew⟩
     case measure=>simp[intOf];omega
    .obtain rfl:j=d:=by omega
     have bY:=Aa (aW.o b c' c _ aO hT.o bB.o);have bR:=aA.o.frz b;have hvb:=aA.o.cell bI;have aT:=Aa (aA.o.set b (.int .i64 0));have aS:=Aa (aA.o.exSet (Nat.le_refl _) hx b (.int .i64 0));have aX:=Aa (show ∀l,0<=Ax c' b 0 l/\Ax c' b 0 l<p from fun l=>by
      unfold Ax;split
      .omega
      .exact aE.o l)
     have bX:=Aa (show BT p (ap j low b (Ax c' b 0) Aq) T from by
      have e:=bW.o b c' 0;show BT p (ap j low b (Gz c' b 0) Aq) T
      rw[e];exact bY.o)
     have HZ:=Aa (show ∀l,b<=l->l<ml.length+1->Ax c' b 0 l=0 from fun l h1 h2=>by
      by_cases e:l=b
      .subst e;exact Ab _ _ _
      .rw[Ae _ _ e,aL.o l h1];exact hz.o l ac h2)
     go_wp2_with fail
     go_roundw
     case rel=>exact⟨b,Ax c' b 0,aO,ac,rfl,Aa (by have:=aT.o;rwa[Cy]at this),aX,bX,HZ,aS.o⟩
     case measure=>simp[intOf]
  .obtain rfl:a=d:=by omega
   have aK:=Aa (bP.o c aP.o hT.o);go_wp2_with fail
   go_loopw [12] (fun i' wr=>∃i:Nat,i<=ml.length+1/\i'= .int .i64 i/\Hia (∀j,j<i->c j=0)/\Hia (AQ wr w.heap.size 3 g (ml.length+1) cap (iv c))/\Ex w wr) (fun i' _=>ml.length+1-(intOf i').toNat)
   case atStart=>exact⟨0,ac,rfl,Aa (fun j h=>ac),aA,hx⟩
   case round=>
    clear aA hx;obtain⟨i,hi,rfl,aI,aA,hx⟩:=hrel;by_cases hlt:i<ml.length+1
    .have bA:wr.cell? ⟨g,i,none⟩=some (.int .i64 (c i)):=aA.o.cell hlt;by_cases h0:c i=0
     .have hvi':wr.cell? ⟨g,i,none⟩=some (.int .i64 0):=by rw[bA,h0]
      have HA:=Aa (show ∀j,j<i+1->c j=0 from fun j hj=>by
       by_cases e:j=i
       .subst e;exact h0
       .exact aI.o j ac)
      clear bA h0;go_wp2_with fail
      go_roundw
      case rel=>exact⟨i+1,ac,by go_num,HA,aA,hx⟩
      case measure=>simp[intOf];omega
     .have hb:((c i)==0)=false:=by simpa using h0
      have bU:i<a:=by
       rcases Nat.lt_or_ge i a with e|e
       .exact e
       .exact absurd (hz.o i e hlt) h0
      have HF:=Aa (show N5 p a low ml=false by
       rw[aK.o,List.all_eq_false];exact⟨i,List.mem_range.2 bU,by simpa using h0⟩)
      clear h0;generalize c i=ci at *;go_wp2_with fail
      go_ret;exact⟨Ao HF.o.symm,hx⟩
    .have HF:=Aa (show N5 p a low ml=true by
      rw[aK.o,List.all_eq_true];intro j hj;have:=aI.o j (by have:=List.mem_range.1 hj;omega);simp[this])
     go_wp2_with fail
     go_ret;exact⟨Ao HF.o.symm,hx⟩
end
section
open Go.RowKit
def UP(p:Nat)(ml:List Int):Bool:=(List.range (ml.length/2)).all fun d=>(List.range (p^(d+1))).all fun v=> !N5 p (d+1) (AS p (d+1) v) ml
theorem TJ{p:Nat}{ml:List Int}{d v:Nat}(h1:2*(d+1)<=ml.length)(h2:v<p^(d+1))(h3:N5 p (d+1) (AS p (d+1) v) ml=true):UP p ml=false:=by
 unfold UP;rw[List.all_eq_false];refine⟨d,List.mem_range.2 ac,?_⟩;rw[Bool.not_eq_true,List.all_eq_false];exact⟨v,List.mem_range.2 h2,by simp[h3]⟩
theorem Qv{p:Nat}{ml:List Int}(h:∀d v,2*(d+1)<=ml.length->v<p^(d+1)->N5 p (d+1) (AS p (d+1) v) ml=false):UP p ml=true:=by
 unfold UP;rw[List.all_eq_true];intro d hd;rw[List.all_eq_true];intro v hv;rw[h d v (by have:=List.mem_range.1 hd;omega) (List.mem_range.1 hv)];rfl
theorem Iu(p:Nat)(ml:List Int)(mv:Value)(w:World)(hp:2<=p)(aO:p<=256)(aP:ml.length<=8)(hq:p^ml.length<=256)(aG:Ak w mv ml)(aM:∀x∈ml,0<=x/\x<p):
  Calls Tryz.prog 119 #[mv,.int .i64 p] w fun r w'=>r= .returned (.bool (UP p ml))/\Ex w w':=by
 have aV:=Aa aG;have aW:=Aa (fun d v lv w' h1 h2 h3 h4=>N7 p d (AS p d v) ml lv mv w' hp aO h1 h2 aP h3 (Ed ac d v) h4 aM);have aU:=Aa (fun d v h1 h2 h3=>TJ (p:=p) (ml:=ml) (d:=d) (v:=v) h1 h2 h3);have aI:=Aa (fun h=>Qv (p:=p) (ml:=ml) h);have aN:=Aa (show ∀d,d<=ml.length->p^d<=256 from fun d hd=>Nat.le_trans (Nat.pow_le_pow_right ac hd) hq);have aT:=Aa (fun d=>Nat.pow_succ p d);obtain⟨ma,mc,rfl,m1,m2,m3⟩:=aG.open;unfold maxLen at m2;clear aG aM m3 hq;go_enter Tryz.func119,Tryz.ntmps119
 go_wp2_with fail
 go_loopw [5,6,7] (fun c' d' _ wr=>∃d:Nat,2*d<=ml.length/\d'= .int .i64 ((d:Int)+1)/\c'= .int .i64 ((p^d:Nat):Int)/\Hia (∀e v,e<d->v<p^(e+1)->N5 p (e+1) (AS p (e+1) v) ml=false)/\Ex w wr) (fun _ d' _ _=>10-(intOf d').toNat)
 case atStart=>exact⟨0,ac,rfl,ag,Aa (fun e v h=>ac),Ex.refl _⟩
 case round=>
  obtain⟨d,hd,rfl,rfl,aD,hx⟩:=hrel;have hpd:=aN.o d ac;have hpp:1<=p^d:=Nat.pow_pos ac;have aK:=Aa (aT.o d);by_cases hlt:2*(d+1)<=ml.length
  .have aC:=aN.o (d+1) ac;rw[aK.o]at aC;have aA:((p^d:Nat):Int)*(p:Int)=((p^d*p:Nat):Int):=by simp
   have hm1:0<=((p^d:Nat):Int)*(p:Int):=by rw[aA];omega
   have hm2:((p^d:Nat):Int)*(p:Int)<=256:=by rw[aA];omega
   obtain⟨n,hn⟩:=nA (p^d*p);rw[hn]at aA aC;have HC:=Aa aA;have aQ:2*((d:Int)+1)<=(ml.length:Int):=ac;have aJ:=Aa (show p^(d+1)=n by rw[aK.o,hn]);clear aA hn aK;generalize p^d=pd at *;obtain⟨wo,rfl⟩:∃wo:World,wo=wr:=⟨_,rfl⟩;go_wp2_with fail
   rw[HC.o]
   go_loopw [7] (fun v' wr=>∃v:Nat,v<=n/\v'= .int .i64 v/\Hia (∀u,u<v->N5 p (d+1) (AS p (d+1) u) ml=false)/\Ex w wr) (fun v' _=>n-(intOf v').toNat)
   case atStart=>exact⟨0,ac,rfl,Aa (fun u h=>ac),hx⟩
   case round=>
    clear hx;obtain⟨v,hv,rfl,aE,hx⟩:=hrel;by_cases hlv:v<n
    .have aS:=Aa (fun w'=>by
      have h:=Ib v p (d+1) w' ac ac ac ac;rw[show((d+1:Nat):Int)=(d:Int)+1 by omega]at h;exact h)
     have aH:(v:Int)<(n:Int):=ac;go_wp2_with fail
     (with_reducible refine(aS.o _).mono ?_)
     rintro e w2⟨lv,rfl,⟨g,rfl,hg1,aR⟩,aF⟩;go_wp2_with fail
     refine(aW.o (d+1) v _ _ ac ac aR.isl (aV.o.ex (hx.trans aF))).mono ?_;rintro e w3⟨rfl,aL⟩;by_cases hdv:N5 p (d+1) (AS p (d+1) v) ml=true
     .have HF:=Aa (aU.o d v hlt (by rw[aJ.o];exact hlv) hdv);rw[hdv];clear hdv;go_wp2_with fail
      go_ret;exact⟨Ao HF.o.symm,(hx.trans aF).trans aL⟩
     .have aB:N5 p (d+1) (AS p (d+1) v) ml=false:=by simpa using hdv
      rw[aB];have HA:=Aa (show ∀u,u<v+1->N5 p (d+1) (AS p (d+1) u) ml=false from fun u hu=>by
       by_cases e:u=v
       .subst e;exact aB
       .exact aE.o u ac)
      clear hdv aB;go_wp2_with fail
      go_roundw
      case rel=>exact⟨v+1,ac,by go_num,HA,(hx.trans aF).trans aL⟩
      case measure=>simp[intOf];omega
    .have aH:(n:Int)<=(v:Int):=by omega
     have HA:=Aa (show ∀e u,e<d+1->u<p^(e+1)->N5 p (e+1) (AS p (e+1) u) ml=false from fun e u he hu=>by
      by_cases h:e=d
      .subst h;exact aE.o u (by rw[aJ.o]at hu;omega)
      .exact aD.o e u ac hu)
     go_wp2_with fail
     go_roundw
     case rel=>exact⟨d+1,hlt,by go_num,by rw[aJ.o],HA,hx⟩
     case measure=>simp[intOf];omega
  .have HF:=Aa (aI.o fun e v h1 h2=>aD.o e v ac h2);have aQ:¬2*((d:Int)+1)<=(ml.length:Int):=by omega
   generalize p^d=pd at *;go_wp2_with fail
   go_ret;exact⟨Ao HF.o.symm,hx⟩
def BN(p m:Int)(ml:List Int):Int:=if (Ja p m ml&&(decide (m=1)||UP p.toNat ml))=true then 0 else 1
theorem QU{p m:Int}{ml:List Int}(h:Ja p m ml=false):BN p m ml=1:=by unfold BN;rw[h];rfl
theorem zaQ{P:Prop}(h:P:=by
 go_enter Tryz.func59,Tryz.ntmps59
 have d0:=D0.o;have d1:=D1.o;have d2:=D2.o;go_wp2_with fail
 generalize w.alloc (.cells #[.int .i64 pn,.int .i64 mn,.slice ma ml.length mc] 24)=w1 at *;clear D0 D1 D2;refine(aH.o _).mono ?_;rintro e w2⟨rfl,aA⟩;have r0:=aA.cell d0;have r1:=aA.cell d1;have r2:=aA.cell d2;go_wp2_with fail
 refine(aJ.o _).mono ?_;rintro e w3⟨rfl,rfl⟩;go_wp2_with fail
 go_ret;exact⟨Af HC.o.symm,e0.trans aA⟩):P:=h
theorem Ji(p m:Int)(ml:List Int)(mv:Value)(w:World)(aN:Ak w mv ml):
  Calls Tryz.prog 59 #[.agg #[.int .i64 p,.int .i64 m,mv]] w fun r w'=>r= .returned (.int .i64 (BN p m ml))/\Ex w w':=by
 obtain⟨d0,d1,d2,e0,_⟩:=AO w p m mv;have aR:=Aa (show Ja p m ml=(decide (CV p m≠0)&&(He p.toNat&&if m=1 then ml.length==0 else ml.length==m.toNat&&ml.all fun x=>decide (0<=x)&&decide (x<p))) from rfl);have aZ:=Aa aN;obtain⟨ma,mc,rfl,m1,m2,m3⟩:=(aN.ex e0).open;have M3:=Aa m3;have DJ:=fun w=>CJ p m (.slice ma ml.length mc) w;have aC:=Aa (fun h=>QU (p:=p) (m:=m) (ml:=ml) h);unfold maxLen at m2;clear aN m3;have D0:=Aa d0;have D1:=Aa d1;have D2:=Aa d2;clear d0 d1 d2;by_cases ho:CV p m=0
 .have HC:=Aa (aC.o (by rw[aR.o,ho];rfl));rw[ho]at DJ;have aH:=Aa DJ;clear ho DJ;go_enter Tryz.func59,Tryz.ntmps59
  have d0:=D0.o;have d1:=D1.o;have d2:=D2.o;go_wp2_with fail
  generalize w.alloc (.cells #[.int .i64 p,.int .i64 m,.slice ma ml.length mc] 24)=w1 at *;clear D0 D1 D2;refine(aH.o _).mono ?_;rintro e w2⟨rfl,aA⟩;have r0:=aA.cell d0;have r1:=aA.cell d1;have r2:=aA.cell d2;go_wp2_with fail
  go_ret;exact⟨Af HC.o.symm,e0.trans aA⟩
 .obtain⟨pn,mn,rfl,rfl,p2,q1,q8,qq,aT⟩:=L7 ho;have hpw:1<=pn^mn:=Nat.pow_pos ac;have aE:pn<=256:=by
   have h1:pn^1<=pn^mn:=Nat.pow_le_pow_right ac q1;rw[Nat.pow_one]at h1;omega
  have hb0:(((pn^mn:Nat):Int)==0)=false:=by rw[beq_eq_false_iff_ne];omega
  have aB:=Aa (show Ja pn mn ml=(He pn&&if (mn:Int)=1 then ml.length==0 else ml.length==mn&&ml.all fun x=>decide (0<=x)&&decide (x<pn)) by
   rw[aR.o,decide_eq_true ho];simp)
  have aI:=fun w=>OT pn w p2 aE;have HQQ:=Aa qq;have aY:=Aa (show ∀n,n=mn->pn^n<=256 from fun n h=>by rw[h];exact qq);rw[aT]at DJ;have aH:=Aa DJ;clear DJ;generalize pn^mn=qn at *;clear ho aT aR;by_cases hpr:He pn=true
  .rw[hpr]at aB aI;have aJ:=Aa aI;clear aI hpr;by_cases hm1:mn=1
   .have aO:((mn:Int)==1)=true:=by simp;omega
    by_cases hl:ml.length=0
    .have HC:=Aa (show BN pn mn ml=0 by
      unfold BN;rw[aB.o,if_pos (show(mn:Int)=1 by omega),hl,decide_eq_true (show(mn:Int)=1 by omega)];rfl)
     have aX:((ml.length:Int) !=0)=false:=by rw[bne_eq_false_iff_eq];omega
     have aQ:((ml.length:Int)==0)=true:=by rw[beq_iff_eq];omega
     clear hm1 aB hl;exact zaQ
    .have HC:=Aa (aC.o (by rw[aB.o,if_pos (show(mn:Int)=1 by omega),Bool.true_and,beq_eq_false_iff_ne];exact hl));have aX:((ml.length:Int) !=0)=true:=by rw[bne_iff_ne];omega
     have aQ:((ml.length:Int)==0)=false:=by rw[beq_eq_false_iff_ne];omega
     clear hm1 aB hl;exact zaQ
   .have aO:((mn:Int)==1)=false:=by simp;omega
    have HR:=Aa (show Ja pn mn ml=(ml.length==mn&&ml.all fun x=>decide (0<=x)&&decide (x<pn)) by rw[aB.o,if_neg ac,Bool.true_and]);have bA:=Aa hm1;clear hm1 aB;by_cases hlen:ml.length=mn
    .have aW:((ml.length:Int)==(mn:Int))=true:=by rw[beq_iff_eq];omega
     have aV:((ml.length:Int) !=(mn:Int))=false:=by rw[bne_eq_false_iff_eq];omega
     have aU:=Aa (show Ja pn mn ml=ml.all fun x=>decide (0<=x)&&decide (x<pn) by rw[HR.o,show(ml.length==mn)=true by simp[hlen],Bool.true_and]);have aD:=Aa hlen;clear hlen HR;go_enter Tryz.func59,Tryz.ntmps59
     have d0:=D0.o;have d1:=D1.o;have d2:=D2.o;go_wp2_with fail
     generalize w.alloc (.cells #[.int .i64 pn,.int .i64 mn,.slice ma ml.length mc] 24)=w1 at *;clear D0 D1 D2;refine(aH.o _).mono ?_;rintro e w2⟨rfl,aA⟩;have r0:=aA.cell d0;have r1:=aA.cell d1;have r2:=aA.cell d2;go_wp2_with fail
     refine(aJ.o _).mono ?_;rintro e w3⟨rfl,rfl⟩;go_wp2_with fail
     clear r0 r1 r2
     go_loopw [3] (fun j' wr=>∃j:Nat,j<=ml.length/\j'= .int .i64 j/\Hia (∀i y,i<j->ml[i]?=some y->0<=y/\y<pn)/\Ex w1 wr) (fun j' _=>ml.length-(intOf j').toNat)
     case atStart=>exact⟨0,ac,rfl,Aa (fun i y h=>ac),aA⟩
     case round=>
      clear aA;obtain⟨j,hj,rfl,aM,hx⟩:=hrel;have r0:=hx.cell d0;have r1:=hx.cell d1;have r2:=hx.cell d2;by_cases hlt:j<ml.length
      .obtain⟨y,hy⟩:∃y,ml[j]?=some y:=⟨_,List.getElem?_eq_getElem hlt⟩;obtain⟨b,o,rfl,hc⟩:=M3.o ac;have c1:=hx.cell (hc j y hy);have aP:(j:Int)<(mn:Int):=by have:=aD.o;omega
       by_cases hy0:0<=y/\y<pn
       .have HA:=Aa (show ∀i z,i<j+1->ml[i]?=some z->0<=z/\z<pn from fun i z hi hz=>by
         by_cases e:i=j
         .subst e;rw[hy]at hz;injection hz with hz;subst hz;exact hy0
         .exact aM.o i z ac hz)
        obtain⟨y0,y1⟩:=hy0;have b1:decide (y<0)=false:=by simpa using y0
        have b2:decide ((pn:Int)<=y)=false:=by simpa using y1
        clear hc hy;go_wp2_with fail
        go_quiet (fail)
        go_wp2_with fail
        go_roundw
        case rel=>exact⟨j+1,ac,by go_num,HA,hx.drewN _⟩
        case measure=>simp[intOf];omega
       .have HF:=Aa (aC.o (by
         rw[aU.o,List.all_eq_false];refine⟨y,List.mem_of_getElem? hy,?_⟩;simpa using hy0))
        have aK:y<0∨(0<=y/\(pn:Int)<=y):=ac;clear hc hy hy0;rcases aK with aK|⟨aK,hy2⟩
        .have b1:decide (y<0)=true:=by simpa using aK
         go_wp2_with fail
         go_quiet (fail)
         go_wp2_with fail
         go_ret;exact⟨Af HF.o.symm,e0.trans (hx.drewN _)⟩
        .have b1:decide (y<0)=false:=by simpa using aK
         have b2:decide ((pn:Int)<=y)=true:=by simpa using hy2
         go_wp2_with fail
         go_quiet (fail)
         go_wp2_with fail
         go_ret;exact⟨Af HF.o.symm,e0.trans (hx.drewN _)⟩
      .obtain rfl:j=ml.length:=by omega
       have aG:∀y∈ml,0<=y/\y<pn:=fun y hy=>by
        obtain⟨i,hi,e⟩:=List.getElem_of_mem hy;exact aM.o i y hi ar
       have HT:=Aa (show BN pn mn ml=if UP pn ml=true then 0 else 1 by
        unfold BN;rw[aU.o,show(ml.all fun x=>decide (0<=x)&&decide (x<(pn:Int)))=true by
         rw[List.all_eq_true];intro y hy;simp[aG y hy],decide_eq_false (show ¬(mn:Int)=1 by have:=bA.o;omega)]
        simp)
       have bB:=Aa (fun (w':World) (h:Ak w' (.slice ma ml.length mc) ml)=>Iu pn ml (.slice ma ml.length mc) w' p2 aE (by have:=aD.o;omega) (aY.o _ aD.o) h aG);have aP:¬((ml.length:Int)<(mn:Int)):=by have:=aD.o;omega
       clear aG;go_wp2_with fail
       refine(bB.o _ (aZ.o.ex (e0.trans hx))).mono ?_;rintro e w4⟨rfl,aS⟩;by_cases hir:UP pn ml=true
       .have HC:=Aa (show BN pn mn ml=0 by rw[HT.o,if_pos hir]);rw[hir];clear hir;go_wp2_with fail
        go_ret;exact⟨Af HC.o.symm,(e0.trans hx).trans aS⟩
       .have HC:=Aa (show BN pn mn ml=1 by rw[HT.o,if_neg hir]);have aL:UP pn ml=false:=by simpa using hir
        rw[aL];clear hir aL;go_wp2_with fail
        go_ret;exact⟨Af HC.o.symm,(e0.trans hx).trans aS⟩
    .have aW:((ml.length:Int)==(mn:Int))=false:=by rw[beq_eq_false_iff_ne];omega
     have aV:((ml.length:Int) !=(mn:Int))=true:=by rw[bne_iff_ne];omega
     have HC:=Aa (aC.o (by rw[HR.o,show(ml.length==mn)=false by simp[hlen],Bool.false_and]));clear hlen HR;exact zaQ
  .have aF:He pn=false:=by simpa using hpr
   have HC:=Aa (aC.o (by rw[aB.o,aF];rfl));rw[aF]at aI;have aJ:=Aa aI;clear aI hpr aF aB;exact zaQ
end
section
open Go.RowKit
inductive RKd where
 | val (g:List Value->Value)
 | new (e:TypeId) (size n:Nat) (xs:List Value->List Value)
 | app (c:Option Nat) (e:TypeId) (size n:Nat) (xs:List Value->List Value)
structure Fj where
 kd:RKd
 dp:List Nat
 eat:Nat
def Fj.says(d:Fj)(bw b0:Nat)(V:Nat->Value)(k:Nat)(w:World):Prop:=match d.kd with
 | .val g=>V k=g (d.dp.map V)
 | .new e size n xs=>w.ownsRow bw e size (V k) n (xs (d.dp.map V))
 | .app (some _) e size n xs=>w.ownsRow bw e size (V k) n (xs (d.dp.map V))
 | .app none e size n xs=>w.ownsRow b0 e size (V k) n (xs (d.dp.map V))
def Fj.isRow(d:Fj):Bool:=match d.kd with
 | .val _=>false
 | _=>true
structure Q4(D:Nat->Fj)(m e0 b0:Nat)(w0 w:World)(v0:Value)(e:TypeId)(size n:Nat)(xs:List Value)(L:Nat->Bool)(V:Nat->Value)(w':World):Prop where
 gr:w.grownBy w' v0.ownBlock
 ex:Ex w0 w'
 lt:∀k,L k=true->k<m
 dps:∀k,L k=true->∀d∈(D k).dp,L d=true
 says:∀k,L k=true->L (D k).eat=false->(D k).says w.heap.size b0 V k w'
 ap:∀j k,L j=true->L k=true->L (D j).eat=false->L (D k).eat=false->j≠k->(D j).isRow=true->(D k).isRow=true->AJ (V j) (V k)
 o:L e0=false->w'.ownsRow b0 e size v0 n xs/\∀k,L k=true->L (D k).eat=false->(D k).isRow=true->AJ (V k) v0
 oat:L e0=true->(V e0).ownBlock=v0.ownBlock∨∀B,(V e0).ownBlock=some B->w.heap.size<=B
theorem De{w:World}{base b':Nat}{e:TypeId}{size:Nat}{v:Value}{n:Nat}{xs:List Value}(h:w.ownsRow base e size v n xs)(hb:b'<=base):w.ownsRow b' e size v n xs:=by
 obtain⟨h1,h2⟩:=h;refine⟨h1,?_⟩;rcases h2 with h2|⟨g,cap,cur,a,b,c⟩
 .exact .inl h2
 .exact .inr ⟨g,cap,cur,a,Nat.le_trans hb b,c⟩
theorem JG{w w':World}(h:Ex w w')(ob:Option Nat):w.grownBy w' ob:=⟨h.os,h.tape,h.output,h.size,fun k hk _=>h.block k hk⟩
theorem II{V:Nat->Value}{i:Nat}{u:Value}{dp:List Nat}(h:i ∉ dp):dp.map (Ax V i u)=dp.map V:=by
 refine List.map_congr_left fun d hd=>?_;exact Ae _ _ fun e=>h (e ▸ hd)
theorem BF{L:Nat->Bool}{i k:Nat}(h:Ax L i true k=true)(hk:k≠i):L k=true:=by rwa[Ae _ _ hk]at h
theorem Ce{L:Nat->Bool}{i k:Nat}(h:Ax L i true k=false):L k=false:=by
 by_cases e:k=i
 .subst e;rw[Ab]at h;cases h
 .rwa[Ae _ _ e]at h
section
variable {D:Nat->Fj} {m e0 b0:Nat} {w0 w:World} {v0:Value} {te:TypeId} {size n:Nat} {xs:List Value} {L:Nat->Bool} {V:Nat->Value} {w' w'':World}
theorem Fj.says_upd{d:Fj}{bw:Nat}{k i:Nat}{u:Value}(h:d.says bw b0 V k w')(hk:k≠i)(hd:i ∉ d.dp):d.says bw b0 (Ax V i u) k w':=by
 unfold Fj.says at *;rw[II hd,Ae _ _ hk];exact h
theorem Fj.says_ex{d:Fj}{bw:Nat}{k:Nat}(h:d.says bw b0 V k w')(hx:Ex w' w''):d.says bw b0 V k w'':=by
 unfold Fj.says at *;split at h
 .exact h
 .exact Ai h hx
 .exact Ai h hx
 .exact Ai h hx
theorem Fj.says_kept{d:Fj}{bw:Nat}{k:Nat}{ob:Value}(h:d.says bw b0 V k w')(hg:w'.grownBy w'' ob.ownBlock)(ha:d.isRow=true->AJ (V k) ob):d.says bw b0 V k w'':=by
 unfold Fj.says Fj.isRow at *;split at h
 .exact h
 .exact h.kept hg (ha (by simp[*]))
 .exact h.kept hg (ha (by simp[*]))
 .exact h.kept hg (ha (by simp[*]))
theorem Fj.says_lt{d:Fj}{bw:Nat}{k:Nat}(h:d.says bw b0 V k w')(hr:d.isRow=true):∀B,(V k).ownBlock=some B->B<w'.heap.size:=fun B hB=>by
 unfold Fj.says Fj.isRow at *;split at h
 .simp[*]at hr
 .exact(h.lt B hB).2
 .exact(h.lt B hB).2
 .exact(h.lt B hB).2
theorem Dw{u v:Value}{N:Nat}(h1:∀B,u.ownBlock=some B->N<=B)(h2:∀B,v.ownBlock=some B->B<N):AJ u v:=by
 unfold AJ
 cases hu:u.ownBlock with
 | none=>exact .inl rfl
 | some B=>
  right;intro e;have:=h1 B hu;have:=h2 B e.symm;omega
variable {l:List Oper} {i:Nat} {u:Value}
theorem zaD{P:Prop}(h:P:=by
 have aA:=BF hk e;exact Fj.says_ex (Fj.says_upd (h.says k aA (Ce he)) e (fun hm=>by rw[h.dps k aA i hm]at hi;cases hi)) hx):P:=h
theorem zaG{P:Prop}(h:P:=by
 have:=h.dps k (BF hk e) d hd;by_cases e2:d=i
 .rw[e2,Ab]
 .rw[Ae _ _ e2];exact this):P:=h
theorem Q4.set_val(h:Q4 D m e0 b0 w0 w v0 te size n xs L V w')(him:i<m)(aC:e0≠i)(hi:L i=false){g:List Value->Value}{dp:List Nat}{eat:Nat}(hD:D i=⟨.val g,dp,eat⟩)(hC:eat=m)(aB:∀d∈dp,L d=true)(hx:Ex w' w'')(hu:u=g (dp.map V)):Q4 D m e0 b0 w0 w v0 te size n xs (Ax L i true) (Ax V i u) w'' where
 gr:=h.gr.trans (JG hx _)
 ex:=h.ex.trans hx
 lt:=fun k hk=>by
  by_cases e:k=i
  .omega
  .exact h.lt k (BF hk e)
 dps:=fun k hk d hd=>by
  by_cases e:k=i
  .subst e;rw[hD]at hd;have:=aB d hd;by_cases e2:d=k
   .rw[e2,Ab]
   .rw[Ae _ _ e2];exact this
  .exact zaG
 says:=fun k hk he=>by
  by_cases e:k=i
  .subst e;have hn:k ∉ dp:=fun hm=>by rw[aB k hm]at hi;cases hi
   unfold Fj.says;simp only[hD];rw[II hn,Ab];exact hu
  .exact zaD
 ap:=fun j k hj hk ej ek aD rj rk=>by
  have nj:j≠i:=fun e=>by subst e;rw[hD]at rj;cases rj
  have nk:k≠i:=fun e=>by subst e;rw[hD]at rk;cases rk
  rw[Ae _ _ nj,Ae _ _ nk];exact h.ap j k (BF hj nj) (BF hk nk) (Ce ej) (Ce ek) aD rj rk
 o:=fun h0=>by
  obtain⟨a,b⟩:=h.o (Ce h0);refine⟨Ai a hx,fun k hk ek rk=>?_⟩;have nk:k≠i:=fun e=>by subst e;rw[hD]at rk;cases rk
  rw[Ae _ _ nk];exact b k (BF hk nk) (Ce ek) rk
 oat:=fun h0=>by
  rw[Ae _ _ aC]at h0 ⊢;exact h.oat h0
theorem Q4.set_new(h:Q4 D m e0 b0 w0 w v0 te size n xs L V w')(him:i<m)(aD:e0≠i)(hi:L i=false){t:TypeId}{s n':Nat}{ys:List Value->List Value}{dp:List Nat}{eat:Nat}(hD:D i=⟨.new t s n' ys,dp,eat⟩)(aC:∀d∈dp,L d=true)(hx:Ex w' w'')(hu:w''.ownsRow w'.heap.size t s u n' (ys (dp.map V))):Q4 D m e0 b0 w0 w v0 te size n xs (Ax L i true) (Ax V i u) w'' where
 gr:=h.gr.trans (JG hx _)
 ex:=h.ex.trans hx
 lt:=fun k hk=>by
  by_cases e:k=i
  .omega
  .exact h.lt k (BF hk e)
 dps:=fun k hk d hd=>by
  by_cases e:k=i
  .subst e;rw[hD]at hd;have:=aC d hd;by_cases e2:d=k
   .rw[e2,Ab]
   .rw[Ae _ _ e2];exact this
  .exact zaG
 says:=fun k hk he=>by
  by_cases e:k=i
  .subst e;have hn:k ∉ dp:=fun hm=>by rw[aC k hm]at hi;cases hi
   unfold Fj.says;simp only[hD];rw[II hn,Ab];exact De hu h.gr.size
  .exact zaD
 ap:=fun j k hj hk ej ek aB rj rk=>by
  by_cases e:j=i
  .subst e;have nk:k≠j:=fun e=>aB e.symm;rw[Ab,Ae _ _ nk];exact Dw (fun B hB=>(hu.lt B hB).1) (Fj.says_lt (h.says k (BF hk nk) (Ce ek)) rk)
  .by_cases e2:k=i
   .subst e2;rw[Ab,Ae _ _ e];exact(Dw (fun B hB=>(hu.lt B hB).1) (Fj.says_lt (h.says j (BF hj e) (Ce ej)) rj)).symm
   .rw[Ae _ _ e,Ae _ _ e2];exact h.ap j k (BF hj e) (BF hk e2) (Ce ej) (Ce ek) aB rj rk
 o:=fun h0=>by
  obtain⟨a,b⟩:=h.o (Ce h0);refine⟨Ai a hx,fun k hk ek rk=>?_⟩;by_cases e:k=i
  .subst e;rw[Ab];exact Dw (fun B hB=>(hu.lt B hB).1) fun B hB=>(a.lt B hB).2
  .rw[Ae _ _ e];exact b k (BF hk e) (Ce ek) rk
 oat:=fun h0=>by
  rw[Ae _ _ aD]at h0 ⊢;exact h.oat h0
theorem Wv{u v x:Value}{N:Nat}(h1:u.ownBlock=v.ownBlock∨u.ownBlock=some N)(h2:∀B,x.ownBlock=some B->B<N)(h3:AJ x v):AJ x u:=by
 unfold AJ at *;rcases h3 with h3|h3
 .exact .inl h3
 .rcases h1 with h1|h1
  .right;rw[h1];exact h3
  .cases hx:x.ownBlock with
   | none=>exact .inl rfl
   | some B=>
    right;rw[h1];intro e;injection e with e;have:=h2 B hx;omega
theorem Q4.set_out(h:Q4 D m e0 b0 w0 w v0 te size n xs L V w')(him:i<m)(hi:L i=false)(aA:e0=i){t:TypeId}{s n':Nat}{ys:List Value->List Value}{dp:List Nat}{eat:Nat}(hD:D i=⟨.app none t s n' ys,dp,eat⟩)(aD:∀d∈dp,L d=true)(hg:w'.grownBy w'' v0.ownBlock)(hx:Ex w0 w'')(aE:u.ownBlock=v0.ownBlock∨u.ownBlock=some w'.heap.size)(hu:w''.ownsRow b0 t s u n' (ys (dp.map V))):Q4 D m e0 b0 w0 w v0 te size n xs (Ax L i true) (Ax V i u) w'' where
 gr:=h.gr.trans hg
 ex:=hx
 lt:=fun k hk=>by
  by_cases e:k=i
  .omega
  .exact h.lt k (BF hk e)
 dps:=fun k hk d hd=>by
  by_cases e:k=i
  .subst e;rw[hD]at hd;have:=aD d hd;by_cases e2:d=k
   .rw[e2,Ab]
   .rw[Ae _ _ e2];exact this
  .exact zaG
 says:=fun k hk he=>by
  by_cases e:k=i
  .subst e;have hn:k ∉ dp:=fun hm=>by rw[aD k hm]at hi;cases hi
   unfold Fj.says;simp only[hD];rw[II hn,Ab];exact hu
  .have aB:=BF hk e;obtain⟨a,b⟩:=h.o (by rw[aA];exact hi);exact Fj.says_upd (Fj.says_kept (h.says k aB (Ce he)) hg fun hr=>b k aB (Ce he) hr) e (fun hm=>by rw[h.dps k aB i hm]at hi;cases hi)
 ap:=fun j k hj hk ej ek aC rj rk=>by
  obtain⟨a,b⟩:=h.o (by rw[aA];exact hi);have key:∀k,k≠i->Ax L i true k=true->Ax L i true (D k).eat=false->(D k).isRow=true->AJ (V k) u:=fun k nk hk ek rk=>
   Wv aE (Fj.says_lt (h.says k (BF hk nk) (Ce ek)) rk) (b k (BF hk nk) (Ce ek) rk)
  by_cases e:j=i
  .subst e;have nk:k≠j:=fun e=>aC e.symm;rw[Ab,Ae _ _ nk];exact(key k nk hk ek rk).symm
  .by_cases e2:k=i
   .subst e2;rw[Ab,Ae _ _ e];exact key j e hj ej rj
   .rw[Ae _ _ e,Ae _ _ e2];exact h.ap j k (BF hj e) (BF hk e2) (Ce ej) (Ce ek) aC rj rk
 o:=fun h0=>by rw[aA,Ab]at h0;cases h0
 oat:=fun _=>by
  rw[aA,Ab];rcases aE with h1|h1
  .exact .inl h1
  .right;intro B hB;rw[h1]at hB;injection hB with hB;have:=h.gr.size;omega
end
section
variable {P:Program} {Q:Exit->Act->World->Prop} {l:List Oper} {a0:Act} {D:Nat->Fj} {m e0 b0:Nat} {w0 w:World} {v0:Value} {te:TypeId} {size n:Nat} {xs:List Value} {i:Nat} {o:Oper}
structure Zo(l:List Oper)(a0:Act)(D:Nat->Fj)(m e0 b0:Nat)(w0 w:World)(v0:Value)(te:TypeId)(size n:Nat)(xs:List Value)(i:Nat)(o:Oper)(L:Nat->Bool)(V:Nat->Value)(a:Act)(w':World):Prop where
 hin:∀(k t:Nat) (o':Oper),L k=true->l[k]?=some o'->o'.dst=some t->a.tmps[t]?=some (V k)
 hout:∀t,(l.all fun o=>o.dst !=some t)=true->a.tmps[t]?=a0.tmps[t]?
 hold:∀t d,((List.range l.length).all fun j=>j==d || !((l[j]?).bind (·.dst)==some t))=true->L d=false->a.tmps[t]?=a0.tmps[t]?
 hj:Q4 D m e0 b0 w0 w v0 te size n xs L V w'
 hi:L i=false
 hd:∀e∈o.after,Region.binds .any e=true->L e.on=true
 hcl:∀(k:Nat) (o':Oper),L k=true->l.toArray[k]?=some o'->∀e∈o'.after,Region.binds .any e=true->L e.on=true
def Di(P:Program)(Q:Exit->Act->World->Prop)(l:List Oper)(a0:Act)(D:Nat->Fj)(m e0 b0:Nat)(w0 w:World)(v0:Value)(te:TypeId)(size n:Nat)(xs:List Value)(i:Nat)(o:Oper):Prop:=
 ∀L V a w',Zo l a0 D m e0 b0 w0 w v0 te size n xs i o L V a w'->∀K:Act->World->Prop,(∀u w'',Q4 D m e0 b0 w0 w v0 te size n xs (Ax L i true) (Ax V i u) w''->K (a.put o.dst u) w'')->o.wp P a w' K Q
theorem Di.val{g:List Value->Value}{dp:List Nat}{aA:Nat}(hD:D i=⟨.val g,dp,aA⟩)(aC:i<m)(aB:e0≠i)(hC:aA=m)(h:∀L V a w',Zo l a0 D m e0 b0 w0 w v0 te size n xs i o L V a w'->(∀d∈dp,L d=true)/\∀K:Act->World->Prop,(∀w'',Ex w' w''->K (a.put o.dst (g (dp.map V))) w'')->o.wp P a w' K Q):
  Di P Q l a0 D m e0 b0 w0 w v0 te size n xs i o:=fun L V a w' H K hK=>by
 obtain⟨h1,h2⟩:=h L V a w' H;exact h2 K fun w'' hx=>hK _ _ (H.hj.set_val aC aB H.hi hD hC h1 hx rfl)
theorem Di.new{t:TypeId}{s n':Nat}{ys:List Value->List Value}{dp:List Nat}{aC:Nat}(hD:D i=⟨.new t s n' ys,dp,aC⟩)(aB:i<m)(aA:e0≠i)(h:∀L V a w',Zo l a0 D m e0 b0 w0 w v0 te size n xs i o L V a w'->(∀d∈dp,L d=true)/\∀K:Act->World->Prop,(∀u w'',Ex w' w''->w''.ownsRow w'.heap.size t s u n' (ys (dp.map V))->K (a.put o.dst u) w'')->o.wp P a w' K Q):
  Di P Q l a0 D m e0 b0 w0 w v0 te size n xs i o:=fun L V a w' H K hK=>by
 obtain⟨h1,h2⟩:=h L V a w' H;exact h2 K fun u w'' hx hu=>hK _ _ (H.hj.set_new aB aA H.hi hD h1 hx hu)
theorem Di.out{t:TypeId}{s n':Nat}{ys:List Value->List Value}{dp:List Nat}{aD:Nat}(hD:D i=⟨.app none t s n' ys,dp,aD⟩)(aB:i<m)(aA:e0=i)(hb:w0.heap.size<=b0)(h:∀L V a w',Zo l a0 D m e0 b0 w0 w v0 te size n xs i o L V a w'->(∀d∈dp,L d=true)/\∀(K:Act->World->Prop),w.heap.size<=w'.heap.size->w'.ownsRow b0 te size v0 n xs->(∀u w'',w''.ownsRow b0 t s u n' (ys (dp.map V))->w'.grownBy w'' v0.ownBlock->(u.ownBlock=v0.ownBlock∨u.ownBlock=some w'.heap.size)->K (a.put o.dst u) w'')->o.wp P a w' K Q):
  Di P Q l a0 D m e0 b0 w0 w v0 te size n xs i o:=fun L V a w' H K hK=>by
 obtain⟨h1,h2⟩:=h L V a w' H;obtain⟨a1,a2⟩:=H.hj.o (by rw[aA];exact H.hi);exact h2 K H.hj.gr.size a1 fun u w'' hu hg aC=>hK u w'' (H.hj.set_out aB H.hi aA hD h1 hg (Below.grown H.hj.ex hg H.hj.ex.size (fun k hk=>Nat.le_trans hb (a1.lt k hk).1)) aC hu)
theorem Lw{id:Nat}(D:Nat->Fj)(m e0 b0:Nat)(v0:Value)(te:TypeId)(size n:Nat)(xs:List Value)(hm:P.follows .mixedOrders=true)(hB:LQ a0.tmps.size l 0 []=true)(hlm:l.length<=m)(hx:Ex w0 w)(aB:w.ownsRow b0 te size v0 n xs)
  (hs:AC (Di P Q l a0 D m e0 b0 w0 w v0 te size n xs) l 0)
  (he:∀L V w',(∀i,i<l.length->L i=true)->Q4 D m e0 b0 w0 w v0 te size n xs L V w'->Q .normal (BU l V 0 a0) w'):(Code.region id l.toArray true).wp P Q a0 w:=by
 refine CC (Q4 D m e0 b0 w0 w v0 te size n xs) hm hB ⟨JG ((Ex.refl w).drew) _,hx.drew,fun k h=>bf,fun k h=>bf,fun k h=>bf,fun j k h=>bf,fun _=>⟨Ai aB ((Ex.refl w).drew),fun k h=>bf⟩,fun h=>bf⟩ ?_ he;have aD:∀(l':List Oper) (k0:Nat),AC (Di P Q l a0 D m e0 b0 w0 w v0 te size n xs) l' k0->AC (R8 P Q (Q4 D m e0 b0 w0 w v0 te size n xs) l.toArray a0) l' k0:=fun l'=>by
  induction l' with
  | nil=>intro _ _;trivial
  | cons o l' ih=>
   intro k0 h;refine⟨?_,ih (k0+1) h.2⟩;intro L V a w' hf hj hi hd aH K hK;refine h.1 L V a w' ⟨fun k t o' hk aF aG=>hf.in_ k t hk aF aG,fun t ht=>hf.out_ t ht,fun t d ht hL=>hf.old t fun j oj aC aE e=>?_,hj,hi,hd,aH⟩ K hK;have aA:l[j]?=some oj:=by simpa using aE
   have h1:=List.all_eq_true.1 ht j (List.mem_range.2 (List.getElem?_eq_some_iff.1 aA).1);rw[aA]at h1;simp[e]at h1;rw[h1]at aC;rw[aC]at hL;cases hL
 exact aD l 0 hs
end
end
end Go.Proofs.YtehieobniamagaaGreat
