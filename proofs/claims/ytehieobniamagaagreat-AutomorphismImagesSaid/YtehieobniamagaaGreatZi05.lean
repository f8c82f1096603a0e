/- The values of a long region whose operations fill one slot after the other. -/
import Derived.Shelf.Sort.Plain
import Derived.Test.YtehieobniamagaaGreatProg
import Derived.Test.YtehieobniamagaaGreatZi04
namespace Go.Proofs.YtehieobniamagaaGreat
open Bool renaming and_eq_true→Ξ
open List renaming length_append→ν,take_append_drop→ηl,length_drop→ιr,range→ξ,mem_range→κ,mem_of_find?_eq_some→δo,take_succ_cons→ιa
open Nat renaming le_refl→ζ,le_trans→μ
open Int renaming tmod_eq_emod_of_nonneg→Φ,natCast_emod→ζz,emod_nonneg→γw,emod_lt_of_pos→γi
open Go.IntWalk renaming i64_in→ρ
open Go.RowKit
set_option linter.all false
set_option maxRecDepth 100000
set_option maxHeartbeats 1000000
def OT:List Oper->Nat->Bool
 | [],_=>true
 | o :: l,s=>(o.dst==some s)&&OT l (s+1)
theorem Ta:∀(A:List Value) (x v:Value) (C:List Value),(A++x :: C).set A.length v=A++v :: C
 | [],x,v,C=>rfl
 | a :: A,x,v,C=>by
  show a :: (A++x :: C).set A.length v=_
  rw[Ta A x v C];rfl
def Ps(V:Nat->Value):Nat->Nat->List Value
 | _,0=> []
 | k,n+1=>V k :: Ps V (k+1) n
theorem PT:∀(l:List Oper) (V:Nat->Value) (k:Nat) (A B C:List Value) (D:List Deferred),B.length=l.length->OT l A.length=true->Cg l V k ⟨(A++(B++C)).toArray,D⟩=⟨(A++(Ps V k l.length++C)).toArray,D⟩
 | [],V,k,A,B,C,D,hB,_=>by
  have:B= []:=List.length_eq_zero_iff.1 hB;subst this;rfl
 | o :: l,V,k,A, [],C,D,hB,_=>by simp at hB
 | o :: l,V,k,A,x :: B,C,D,hB,h=>by
  unfold OT at h;rw[Ξ,beq_iff_eq]at h;have e:Act.put ⟨(A++(x :: B++C)).toArray,D⟩ o.dst (V k)=⟨((A ++ [V k])++(B++C)).toArray,D⟩:=by
   rw[h.1];show Act.mk ((A++(x :: B++C)).toArray.setIfInBounds A.length (V k)) D=_
   congr 1
   rw[List.setIfInBounds_toArray];have:=Ta A x (V k) (B++C);rw[show x :: B++C=x :: (B++C) from rfl,this];simp
  show Cg l V (k+1) (Act.put ⟨(A++(x :: B++C)).toArray,D⟩ o.dst (V k))=_
  rw[e,PT l V (k+1) (A ++ [V k]) B C D (by simpa using hB) (by rw[ν];exact h.2)];show _=Act.mk (A++(V k :: Ps V (k+1) l.length++C)).toArray D
  simp
theorem zcF{P:Prop}(h:P:=by
 rw[List.getD_eq_getElem?_getD,List.getElem?_append_right (Nat.le_refl _)];simp):P:=h
theorem Ko:∀(vals aA:List Value),Ps (fun k=>(aA++vals).getD k undef) aA.length vals.length=vals
 | [],aA=>rfl
 | v :: vals,aA=>by
  show(aA++v :: vals).getD aA.length undef :: Ps (fun k=>(aA++v :: vals).getD k undef) (aA.length+1) vals.length=v :: vals
  have h1:(aA++v :: vals).getD aA.length undef=v:=by
   exact zcF
  have h2:=Ko vals (aA ++ [v]);rw[ν,List.append_assoc]at h2;rw[h1];exact congrArg (v :: ·) h2
theorem bh{P:Prop}(h:P:=by rw[List.length_take];omega):P:=h
theorem N8{l:List Oper}{vals a:List Value}{D:List Deferred}{P:Act}(hP:Cg l (fun k=>vals.getD k undef) 0 ⟨a.toArray,D⟩=P)(s t:Nat)(h:(OT l s&&(vals.length==l.length&&(s+l.length==t&&decide (t<=a.length))))=true):P=⟨(a.take s++(vals++a.drop t)).toArray,D⟩:=by
 simp only[Ξ,beq_iff_eq,decide_eq_true_eq]at h;obtain⟨h1,h2,h3,h4⟩:=h;subst hP;have e:a=a.take s++((a.drop s).take l.length++a.drop t):=by
  rw[<-h3,<-List.drop_drop,ηl,ηl]
 have h5:(a.take s).length=s:=bh;have h6:((a.drop s).take l.length).length=l.length:=by rw[List.length_take,ιr];omega
 have h7:=PT l (fun k=>vals.getD k undef) 0 (a.take s) ((a.drop s).take l.length) (a.drop t) D h6 (by rw[h5];exact h1);rw[<-e]at h7;rw[h7,<-h2];have:=Ko vals [];simp only[List.nil_append,List.length_nil]at this;rw[this]
def W0:List Oper->Nat->Nat->Option Nat
 | [],_,_=>none
 | o :: l,k,t=>if (o.dst==some t)=true then some k else W0 l (k+1) t
theorem It:∀(l:List Oper) (k t j:Nat),W0 l k t=some j->∃o,k<=j/\l[j-k]?=some o/\o.dst=some t
 | [],k,t,j,h=>by cases h
 | o :: l,k,t,j,h=>by
  unfold W0 at h;split at h
  .rename_i h1;injection h with h;subst h;exact⟨o,ζ _,by simp,by simpa using h1⟩
  .obtain⟨o',h2,h3,h4⟩:=It l (k+1) t j h;refine⟨o',ac,?_,h4⟩;rw[show j-k=(j-(k+1))+1 from ac];exact h3
theorem Iu:∀(l:List Oper) (k t:Nat),W0 l k t=none->(l.all fun o=>o.dst !=some t)=true
 | [],k,t,h=>rfl
 | o :: l,k,t,h=>by
  unfold W0 at h;split at h
  .cases h
  .rename_i h1;rw[List.all_cons,Iu l (k+1) t h,Bool.and_true];simpa using h1
def lkS(l:List Oper)(pv:Nat->Value)(a0:Act)(o:Oper)(t:Nat):Option Value:=match W0 l 0 t with
 | some j=>if (o.after.toList.any fun e=>e.on==j&&Region.binds .any e)=true then some (pv j) else none
 | none=>a0.tmps[t]?
theorem BB.go{P:Program}{Q:Exit->Act->World->Prop}{a0:Act}{l:List Oper}{pv:Nat->Value}{w:World}{i:Nat}{o:Oper}(hw:Ic l pv o=true)
  (h:∀(a:Act) (w':World),(∀t v,lkS l pv a0 o t=some v->a.tmps[t]?=some v)->Ex w w'->∀K:Act->World->Prop,(∀w'',Ex w' w''->K (a.put o.dst (pv i)) w'')->o.wp P a w' K Q):BB P Q l a0 pv w i o:=
 BB.on hw fun L a w' aB aA hd hx K hK=>h a w' (fun t v hv=>by
  unfold lkS at hv
  cases hj:W0 l 0 t with
  | none=>
   rw[hj]at hv;rw[aA t (Iu l 0 t hj)];exact hv
  | some j=>
   rw[hj]at hv;obtain⟨o',_,h2,h3⟩:=It l 0 t j hj;simp only at hv;split at hv
   .rename_i h4;injection hv with hv;obtain⟨e,he,h5⟩:=List.any_eq_true.1 h4;have he:=Array.mem_toList_iff.1 he;rw[Ξ,beq_iff_eq]at h5;have hL:=hd e he h5.2;rw[h5.1]at hL;rw[<-hv];exact aB j t o' hL h2 h3
   .cases hv) hx K hK
theorem BB.gd{P:Program}{Q:Exit->Act->World->Prop}{a0:Act}{l:List Oper}{pv:Nat->Value}{w:World}{i:Nat}{o:Oper}(c:Bool)
  (h:c=false->∀(a:Act) (w':World),(∀t v,lkS l pv a0 o t=some v->a.tmps[t]?=some v)->Ex w w'->∀K:Act->World->Prop,(∀w'',Ex w' w''->K (a.put o.dst (pv i)) w'')->o.wp P a w' K Q)
  (h1:c=true->Ic l pv o=false/\pv i=undef:=by rintro rfl;exact⟨rfl,rfl⟩) (h2:c=false->Ic l pv o=true:=by rintro rfl;rfl):BB P Q l a0 pv w i o:=by
 cases c with
 | true=>exact BB.off (h1 rfl).1 (h1 rfl).2
 | false=>exact BB.go (h2 rfl) (h rfl)
theorem J9{A:Sort _}(x:A):∃y,Hia (x=y):=⟨x,rfl⟩
theorem or_no{x y:Bool}(h:Hia ((x||y)=false)):x=false/\y=false:=by
 have h:=h.o;cases x <;> cases y <;> simp_all
def Eg(p m:Nat)(ml:List Int)(z:Nat):Nat:=((ξ (p^m)).find? fun y=>decide (1<=y)&&Am p m (lw ml) z y==1).getD 0
theorem Ou{p m:Nat}{ml:List Int}(hp:2<=p)(hm:1<=m)(hF:Hc p m (lw ml)){z y:Nat}(hz:z<p^m)(aA:1<=z)(hy:y<p^m)(h:Am p m (lw ml) z y=1):Eg p m ml z=y:=by
 have aB:1<=y:=by
  rcases Nat.eq_zero_or_pos y with e|e
  .subst e;rw[AY,BY ac]at h;omega
  .exact e
 unfold Eg;rcases hf:(ξ (p^m)).find? (fun y=>decide (1<=y)&&Am p m (lw ml) z y==1) with _|i
 .exfalso;have:=List.find?_eq_none.1 hf y (κ.2 hy);simp[aB,h]at this
 .have h1:=List.find?_some hf;have h2:=κ.1 (δo hf);simp at h1;exact hF.cancel hp hm aA hz h2 hy (by rw[Option.getD_some,AY i z,h1.2,AY y z,h])
section
variable {b p m x0:Nat} {ml:List Int}
theorem Bh.isF{w:World}(hg:Bh w b p m ml x0)(h1:1<=x0)(h2:x0<p^m):Hc p m (lw ml):=⟨x0,h1,h2,hg.gen⟩
theorem zbq{P:Prop}(h:P:=by
 go_enter Tryz.func106,Tryz.ntmps106
 go_wp2_with fail
 refine aF.o.mono ?_;rintro e w1⟨rfl,n0,rfl⟩;go_wp2_with fail
 refine(aE.o n0).mono ?_;rintro e w1⟨rfl,n1,rfl⟩;go_wp2_with fail
 go_ret;exact⟨Ai (by rw[HZ.o];rfl),_,rfl⟩):P:=h
theorem fc{P:Prop}(h:P:=by rw[<-hr];exact Nat.mod_lt _ ac):P:=h
theorem EZ(w:World)(hg:Bh w b p m ml x0)(x y:Int):
  Calls Tryz.prog 106 #[(b,0),x,y] w (Qt w (.int .i64 (Am p m (lw ml) (Av (p^m) x) (Av (p^m) y):Nat))):=by
 have HI:=Aa (fun n x=>Hy (w.drewN n) (hg.drewN n) x);have aF:=Aa (Hy w hg x);have p2:=hg.sh.p2;have m1:=hg.sh.m1;have hq:=hg.sh.q;have aG:=BC p2 m1;have c3:=hg.c3;obtain⟨ev,c4,he⟩:=hg.c4;obtain⟨lv,f,c5,hl,hf⟩:=hg.c5;obtain⟨ea,ec,rfl,e1,e2,e3⟩:=he.open;obtain⟨la,lc,rfl,l1,l2,l3⟩:=hl.open;rw[Ao]at *;obtain⟨eb,eo,rfl,e4⟩:=e3 ac;obtain⟨lb,lo,rfl,l4⟩:=l3 ac;have hz:Av (p^m) x<p^m:=Cb ac x;have ht:Av (p^m) y<p^m:=Cb ac y;have aE:=Aa (fun n=>HI.o n y);clear HI e3 l3 he hl;unfold maxLen at e2 l2;generalize Av (p^m) x=z at *;generalize Av (p^m) y=t at *;by_cases h0:z=0
 .subst h0;have HZ:=Aa (BY (m:=m) (low:=lw ml) (show 1<=p by omega) t);clear hg c3 c4 c5 hz ht hq aG hf e4 l4 e1 e2 l1 l2;exact zbq
 .have z1:1<=z:=by omega
  have hzb:((z:Int)==0)=false:=aq;by_cases h1:t=0
  .subst h1;have HZ:=Aa (show Am p m (lw ml) z 0=0 by rw[AY];exact BY (show 1<=p by omega) z);clear hg c3 c4 c5 hz ht hq aG hf e4 l4 e1 e2 l1 l2 h0;exact zbq
  .have t1:1<=t:=by omega
   have htb:((t:Int)==0)=false:=aq;obtain⟨i,hi,aA⟩:=hg.gen.all p2 m1 z1 hz;obtain⟨j,hj,aB⟩:=hg.gen.all p2 m1 t1 ht;have aJ:=l4 z (f z) (AT hz f);have aK:=l4 t (f t) (AT ht f);have aC:=hf i hi;have aD:=hf j hj;rw[aA]at aC;rw[aB]at aD;rw[aC]at aJ;rw[aD]at aK;obtain⟨r,hr⟩:=nA ((i+j)%(p^m-1));have aI:r<p^m-1:=fc;have aL:=e4 r _ (AT aI _);have aH:KU p m ml x0 r=((Am p m (lw ml) z t:Nat):Int):=by
    unfold KU;rw[<-hr,hg.gen.mod p2 m1,CU p2 m1,aA,aB]
   rw[aH]at aL;have aM:Hia (((i:Int)+j).tmod (((p^m:Nat):Int)-1)=(r:Int)):=Aa (by
    rw[Φ ac,<-hr,ζz]
    congr 1
    omega)
   generalize Am p m (lw ml) z t=kz at *;generalize p^m=q at *;have C3:=Aa c3;have C4:=Aa c4;have C5:=Aa c5;clear hg hf e4 l4 aC aD aA aB hr aH h0 h1 c3 c4 c5;go_enter Tryz.func106,Tryz.ntmps106
   go_wp2_with fail
   refine aF.o.mono ?_;rintro e w1⟨rfl,n0,rfl⟩;go_wp2_with fail
   refine(aE.o n0).mono ?_;rintro e w1⟨rfl,n1,rfl⟩;have c3:=C3.o;have c4:=C4.o;have c5:=C5.o;have i1:IntKind.i64.wrap ((i:Int)+j)=(i:Int)+j:=ρ _ ac;have i2:IntKind.i64.wrap ((q:Int)-1)=(q:Int)-1:=ρ _ ac;have i3:=aM.o;have i4:¬q=1:=bz;have i5:¬((q:Int)-1=0):=ac;go_wp2_with fail
   go_quiet (fail)
   go_wp2_with fail
   go_ret;exact⟨rfl,_,World.drewN_drewN _ _ _⟩
def R8(p m:Nat)(ml:List Int)(z:Nat):Value:=if z=0 then .tuple #[Ω,(7:Int)] else .tuple #[(Eg p m ml z:Nat),Ω]
theorem Uv(w:World)(hg:Bh w b p m ml x0)(aG:1<=x0)(aF:x0<p^m)(x:Int):
  Calls Tryz.prog 250 #[(b,0),x] w (Qt w (R8 p m ml (Av (p^m) x))):=by
 have aE:=Aa (Hy w hg x);have hF:=hg.isF aG aF;have p2:=hg.sh.p2;have m1:=hg.sh.m1;have hq:=hg.sh.q;have aI:=BC p2 m1;have c3:=hg.c3;obtain⟨ev,c4,he⟩:=hg.c4;obtain⟨lv,f,c5,hl,hf⟩:=hg.c5;obtain⟨ea,ec,rfl,e1,e2,e3⟩:=he.open;obtain⟨la,lc,rfl,l1,l2,l3⟩:=hl.open;rw[Ao]at *;obtain⟨eb,eo,rfl,e4⟩:=e3 ac;obtain⟨lb,lo,rfl,l4⟩:=l3 ac;have hz:Av (p^m) x<p^m:=Cb ac x;clear e3 l3 he hl;unfold maxLen at e2 l2;generalize Av (p^m) x=z at *;by_cases h0:z=0
 .subst h0;have HZ:Hia (R8 p m ml 0= .tuple #[Ω,(7:Int)]):=Aa (rfl);clear hg c3 c4 c5 hz hq aI hf e4 l4 e1 e2 l1 l2;go_enter Tryz.func250,Tryz.ntmps250
  go_wp2_with fail
  refine aE.o.mono ?_;rintro e w1⟨rfl,n0,rfl⟩;go_wp2_with fail
  go_ret2;exact⟨by rw[HZ.o];rfl,_,rfl⟩
 .have z1:1<=z:=by omega
  have hzb:((z:Int)==0)=false:=aq;obtain⟨i,hi,aB⟩:=hg.gen.all p2 m1 z1 hz;have aJ:=l4 z (f z) (AT hz f);have aC:=hf i hi;rw[aB]at aC;rw[aC]at aJ;obtain⟨r,hr⟩:=nA ((p^m-1-i)%(p^m-1));have aH:r<p^m-1:=fc;have aK:=e4 r _ (AT aH _);have aA:=hg.gen.inv p2 m1 hi;rw[hr,aB]at aA;have hk:=Ou p2 m1 hF hz z1 (Dq p2 m1 _ _) aA;have aD:KU p m ml x0 r=((Eg p m ml z:Nat):Int):=by unfold KU;rw[hk]
  rw[aD]at aK;have HZ:=Aa (show R8 p m ml z= .tuple #[(Eg p m ml z:Nat),Ω] by unfold R8;rw[if_neg h0]);have aL:Hia ((((p^m:Nat):Int)-1-(i:Int)).tmod (((p^m:Nat):Int)-1)=(r:Int)):=Aa (by
   rw[Φ ac,<-hr,ζz]
   congr 1
   .omega
   .omega)
  generalize Eg p m ml z=kz at *;generalize p^m=q at *;have C3:=Aa c3;have C4:=Aa c4;have C5:=Aa c5;clear hg hF hf e4 l4 aC aB hr aD h0 c3 c4 c5 aA hk;go_enter Tryz.func250,Tryz.ntmps250
  go_wp2_with fail
  refine aE.o.mono ?_;rintro e w1⟨rfl,n0,rfl⟩;have c3:=C3.o;have c4:=C4.o;have c5:=C5.o;have i1:IntKind.i64.wrap ((q:Int)-1-(i:Int))=(q:Int)-1-i:=ρ _ ac;have i2:IntKind.i64.wrap ((q:Int)-1)=(q:Int)-1:=ρ _ ac;have i3:=aL.o;have i4:¬q=1:=bz;have i5:¬((q:Int)-1=0):=ac;go_wp2_with fail
  go_quiet (fail)
  go_wp2_with fail
  go_ret2;exact⟨by rw[HZ.o];rfl,_,World.drewN_drewN _ _ _⟩
theorem Kb{p m:Nat}{ml:List Int}(hq:1<=p^m)(z:Nat):Eg p m ml z<p^m:=by
 unfold Eg;rcases hf:(ξ (p^m)).find? (fun y=>decide (1<=y)&&Am p m (lw ml) z y==1) with _|i
 .show 0<p^m;omega
 .exact κ.1 (δo hf)
def Cc(p m:Nat)(ml:List Int):List Int->List Int->Nat->Nat
 | x :: l,y :: k,s=>Cc p m ml l k (AK p m s (Am p m (lw ml) (Av (p^m) x) (Av (p^m) y)))
 | _,_,s=>s
theorem GR{p m:Nat}{ml:List Int}:∀(l k:List Int) (i:Nat) (s:Nat) (x y:Int),l[i]?=some x->k[i]?=some y->
  Cc p m ml (l.take (i+1)) (k.take (i+1)) s=AK p m (Cc p m ml (l.take i) (k.take i) s) (Am p m (lw ml) (Av (p^m) x) (Av (p^m) y))
 | [],k,i,s,x,y,h,_=>by simp at h
 | a :: l, [],i,s,x,y,_,h=>by simp at h
 | a :: l,c :: k,0,s,x,y,h,h'=>by
  simp at h h';subst h;subst h';cases l <;> cases k <;> simp[Cc]
 | a :: l,c :: k,i+1,s,x,y,h,h'=>by
  simp only[ιa,Cc];exact GR l k i _ x y (by simpa using h) (by simpa using h')
theorem Kd{p m:Nat}{ml:List Int}(hp:1<=p):∀(l k:List Int) (s:Nat),s<p^m->Cc p m ml l k s<p^m
 | x :: l,y :: k,s,_=>Kd hp l k _ (GT hp _ _)
 | [],_,s,h=>by simpa[Cc]using h
 | _ :: _, [],s,h=>by simpa[Cc]using h
theorem Jh{p m:Nat}{ml:List Int}:∀(l k:List Int) (i s:Nat),min l.length k.length<=i->Cc p m ml (l.take i) (k.take i) s=Cc p m ml l k s
 | [],k,i,s,_=>by simp[Cc]
 | a :: l, [],i,s,_=>by cases i <;> simp[Cc]
 | a :: l,c :: k,0,s,h=>by simp at h
 | a :: l,c :: k,i+1,s,h=>by
  simp only[ιa,Cc];exact Jh l k i _ (by simp at h;omega)
end
theorem gt_div{q p:Int}(hp:1<=p):256/p<q↔256<q*p:=by
 constructor
 .intro h;exact Int.lt_mul_of_ediv_lt ac h
 .intro h;exact Int.ediv_lt_of_lt_mul ac h
theorem Dp(p m:Int)(mv:Value)(w:World):
  Calls Tryz.prog 14 #[.agg #[p,m,mv]] w fun r w'=>r= .returned (.int .i64 (CJ p m))/\Ex w w':=by
 obtain⟨xb,aA⟩:=nA w.heap.size;have d0:(w.alloc (.cells #[p,m,mv] 24)).cell? (xb,0)=some (.int .i64 p):=by rw[<-aA];simp
 have d1:(w.alloc (.cells #[p,m,mv] 24)).cell? (xb,1)=some (.int .i64 m):=by rw[<-aA];simp
 have e0:Ex w (w.alloc (.cells #[p,m,mv] 24)):=(Ex.refl _).alloc _;have D0:=Aa d0;have D1:=Aa d1;clear d0 d1;by_cases h:2<=p/\1<=m/\m<=8
 .obtain⟨h1,h3,h4⟩:=h;have HO:=Aa (show CJ p m=if p^m.toNat<=256 then p^m.toNat else 0 by unfold CJ;by_cases h:p^m.toNat<=256 <;> simp[h,h1,h3,h4]);go_enter Tryz.func14,Tryz.ntmps14
  have d0:=D0.o;have d1:=D1.o
  go_wp2
  clear aA D0 D1;generalize w.alloc (.cells #[p,m,mv] 24)=w1 at *
  go_loop [3,4] (fun q' i'=>∃i:Nat,i<=m.toNat/\i'= .int .i64 i/\q'= .int .i64 (p^i)/\1<=p^i/\p^i<=256) (fun _ i'=>m.toNat-(intOf i').toNat)
  case atStart=>exact⟨0,ac,rfl,ag,ag,ag⟩
  case round=>
   obtain⟨i,hi,rfl,rfl,q1,q2⟩:=hrel;have HS:=Aa (Int.pow_succ p i);have HM:Hia (i<m.toNat->p^(i+1)<=p^m.toNat):=Aa (fun h=>I7 h1 h);have HG:=Aa (gt_div (q:=p^i) (show 1<=p by omega));have q4:1<=p^i*p:=by
    exact zc1
   have e1:=Int.ediv_nonneg (show(0:Int)<=256 by omega) (show 0<=p by omega);have e2:256/p<=256:=Int.ediv_le_self _ ac;by_cases hlt:(i:Int)<m
   .by_cases hq:256<p^i*p
    .have HB:=HM.o ac;rw[HS.o]at HB;have HN:=Aa (show ¬p^m.toNat<=256 by omega);have hg:=HG.o.2 hq;clear HB HM HG;generalize p^i=y at *
     go_wp2
     go_ret;exact⟨Ai (by rw[HO.o,if_neg (by have:=HN.o;omega)]),e0⟩
    .have HE:Hia (p^(i+1)=p^i*p):=Aa (HS.o);have hg:¬256/p<p^i:=fun h=>hq (HG.o.1 h);have hg':p^i<=256/p:=by omega
     clear HM HS HG hg;exact zbA
   .have aB:i=m.toNat:=by omega
    have HN:=Aa (show p^m.toNat=p^i by rw[aB]);clear HM HS HG;generalize p^i=y at *
    go_wp2
    go_ret;exact⟨Ai (by rw[HO.o,HN.o,if_pos q2]),e0⟩
 .have HO:=Aa (show CJ p m=0 by
   unfold CJ;rw[if_neg];rintro⟨h1,h2,h3,h4⟩;exact h ⟨h1,h2,h3⟩)
  have c:p<2∨(2<=p/\m<1)∨(2<=p/\1<=m/\8<m):=ac;clear h;rcases c with c|⟨c1,c2⟩|⟨c1,c2,c3⟩
  all_goals
   go_enter Tryz.func14,Tryz.ntmps14
   have d0:=D0.o;have d1:=D1.o
   go_wp2
   go_ret;exact⟨Ai HO.o.symm,e0⟩
theorem ZA{n:Nat}(hn:2<=n):I6 n=true↔∀d,2<=d->d<n->n%d≠0:=by
 unfold I6;rw[decide_eq_true_iff];exact⟨fun h d a b=>h.2 d b a,fun h=>⟨hn,fun d a b=>h d b a⟩⟩
theorem Ru(n:Nat)(w:World)(h1:2<=n)(h2:n<=256):
  Calls Tryz.prog 118 #[n] w fun r w'=>r= .returned (.bool (I6 n))/\w=w':=by
 have HI:=Aa (ZA h1);go_enter Tryz.func118,Tryz.ntmps118
 go_wp2
 go_loop [3] (fun d'=>∃d:Nat,2<=d/\d<=n/\d'= .int .i64 d/\Hia (∀c,2<=c->c<d->n%c≠0)) (fun d'=>n-(intOf d').toNat)
 case atStart=>exact⟨2,ac,ac,rfl,Aa (fun c a b=>ac)⟩
 case round=>
  obtain⟨d,d1,d2,rfl,aA⟩:=hrel;by_cases hlt:d<n
  .by_cases hd:n%d=0
   .have aB:((n:Int)%(d:Int)==0)=true:=by simp;omega
    have HR:=Aa (show I6 n=false by
     rw[<-Bool.not_eq_true];exact fun h=>HI.o.1 h d d1 hlt hd)
    clear hd;exact zdi
   .have aB:((n:Int)%(d:Int)==0)=false:=by simp;omega
    have HA:Hia (∀c,2<=c->c<d+1->n%c≠0):=Aa (fun c a b=>by
     by_cases e:c=d
     .subst e;exact hd
     .exact aA.o c a ac)
    clear hd;exact zb2
  .have HR:=Aa (HI.o.2 fun c a b=>aA.o c a ac);exact zdi
theorem JI(x p m:Nat)(w:World)(hx:x<=65536)(hp:1<=p)(hp':p<=256)(hm:m<=256):
  Calls Tryz.prog 171 #[x,p,m] w fun r w'=>∃v,r= .returned v/\(∃g,v= .slice (some ⟨g,0,none⟩) m m/\w.heap.size<=g/\AJ w' w.heap.size 3 g m (iv (AO p m x)))/\Ex w w':=by
 go_enter Tryz.func171,Tryz.ntmps171
 go_wp2_with (at_make;refine Ar _ rfl _ _ 22 rfl 3 (.int .i64 0) 8 Tryz.underlying22 Az rfl _ m rfl rfl rfl ac ai ?_)
 intro w1 aA aD;obtain⟨g,hg⟩:=nA w.heap.size;have aB:AJ w1 g 3 g m (iv fun j=>if j<0 then AO p m x j else 0):=by
  rw[hg]at aA;exact aA.congr fun j _=>by simp[iv]
 have HG:=Aa hg;simp only[hg];clear aA hg;go_wp2_with fail
 go_loopw [0,8] (fun x' k' wr=>∃k:Nat,k<=m/\k'= .int .i64 k/\x'= .int .i64 ((x/p^k:Nat):Int)/\AJ wr g 3 g m (iv fun j=>if j<k then AO p m x j else 0)/\Ex w wr) (fun _ k' _=>m-(intOf k').toNat)
 case atStart=>exact⟨0,ac,rfl,ag,aB,aD⟩
 case round=>
  clear aB aD;obtain⟨k,hk,rfl,rfl,aA,aD⟩:=hrel;have hxk:x/p^k<=65536:=μ (Nat.div_le_self _ _) hx;have HS:=Aa (show x/p^(k+1)=x/p^k/p by rw[Nat.pow_succ,Nat.div_div_eq_div_mul]);have HD:Hia (k<m->AO p m x k=((x/p^k%p:Nat):Int)):=Aa (fun h=>by unfold AO;rw[if_pos h]);generalize x/p^k=y at *;by_cases hlt:k<m
  .exact zag
  .obtain rfl:k=m:=by omega
   have aC:AJ wr g 3 g k (iv (AO p k x)):=aA.icongr fun j hj=>by rw[if_pos hj]
   have HO:=Aa aC;clear aA aC HD HS;go_wp2_with fail
   go_ret;exact⟨_,rfl,⟨g,rfl,by rw[HG.o];exact ζ _,by rw[HG.o];exact HO.o⟩,aD⟩
theorem AA(w:World)(p m:Int)(mv:Value):(w.alloc (.cells #[p,m,mv] 24)).cell? (w.heap.size,0)=some (.int .i64 p)/\
  (w.alloc (.cells #[p,m,mv] 24)).cell? (w.heap.size,1)=some (.int .i64 m)/\
  (w.alloc (.cells #[p,m,mv] 24)).cell? (w.heap.size,2)=some mv/\Ex w (w.alloc (.cells #[p,m,mv] 24))/\
  (w.alloc (.cells #[p,m,mv] 24)).heap.size=w.heap.size+1:=
 ⟨ag,ag,ag,(Ex.refl _).alloc _,ag⟩
def isI(p m x:Int):Bool:=decide (0<=x/\x<CJ p m)
theorem Ti(p m x:Int)(mv:Value)(w:World):
  Calls Tryz.prog 200 #[.agg #[p,m,mv],x] w fun r w'=>r= .returned (.bool (isI p m x))/\Ex w w':=by
 obtain⟨d0,d1,d2,e0,_⟩:=AA w p m mv;have HO:=Aa (fun w=>Dp p m mv w);have HI:Hia (isI p m x=decide (0<=x/\x<CJ p m)):=Aa (rfl);generalize CJ p m=q at *;by_cases h0:0<=x
 .go_enter Tryz.func200,Tryz.ntmps200
  go_wp2_with fail
  generalize w.alloc (.cells #[p,m,mv] 24)=w1 at *;refine(HO.o _).mono ?_;rintro e w2⟨rfl,hx⟩;go_wp2_with fail
  go_ret;exact⟨Aq (by rw[HI.o];simp[h0]),e0.trans hx⟩
 .go_enter Tryz.func200,Tryz.ntmps200
  go_wp2_with fail
  go_ret;exact⟨Aq (by rw[HI.o];simp;omega),e0⟩
theorem Gg.ord{p m:Nat}{ml:List Int}(h:Gg p m ml):CJ p m=((p^m:Nat):Int):=by
 obtain⟨a,b,c,d,e,f⟩:=h;exact zbK
section
variable {p m:Nat} {ml:List Int} {mv:Value}
theorem zbp{P:Prop}(h:P:=by
 clear h ho hf;go_enter Tryz.func207,Tryz.ntmps207
 go_wp2_with fail
 generalize w.alloc (.cells #[p,m,mv] 24)=w1 at *;refine(HI.o _).mono ?_;rintro e w2⟨rfl,hx⟩;go_wp2_with fail
 go_ret;exact⟨Ai HK.o.symm,e0.trans hx⟩):P:=h
theorem Zu(w:World)(hf:Gg p m ml)(x:Int):
  Calls Tryz.prog 207 #[.agg #[p,m,mv],x] w fun r w'=>r= .returned (.int .i64 (Av (p^m) x:Nat))/\Ex w w':=by
 obtain⟨d0,d1,d2,e0,_⟩:=AA w p m mv;have HI:=Aa (fun w=>Ti p m x mv w);have ho:=hf.ord;by_cases h:0<=x/\x<((p^m:Nat):Int)
 .have HK:=Aa (show((Av (p^m) x:Nat):Int)=x by unfold Av;rw[if_pos h];omega);rw[show isI p m x=true from decide_eq_true (by rw[ho];exact h)]at HI;exact zbp
 .have HK:=Aa (show((Av (p^m) x:Nat):Int)=0 by unfold Av;rw[if_neg h];rfl);rw[show isI p m x=false from decide_eq_false (by rw[ho];exact h)]at HI;exact zbp
def DgOut(p m:Nat)(x:Nat)(w w':World)(v:Value):Prop:=∃g,v= .slice (some ⟨g,0,none⟩) m m/\AJ w' w.heap.size 3 g m (iv (AO p m x))
theorem Ec(w:World)(hf:Gg p m ml)(x:Int):
  Calls Tryz.prog 167 #[.agg #[p,m,mv],x] w fun r w'=>∃v,r= .returned v/\DgOut p m (Av (p^m) x) w w' v/\Ex w w':=by
 obtain⟨d0,d1,d2,e0,_⟩:=AA w p m mv;have HI:=Aa (fun w=>Zu (mv:=mv) w hf x);have p2:=hf.p2;have m8:=hf.m8;have p256:=hf.p256;have hq:=hf.q;have hz:=Cb (show 1<=p^m from Nat.pow_pos ac) x;generalize Av (p^m) x=z at *;have aB:z<=65536:=bz;clear hz hf hq;go_enter Tryz.func167,Tryz.ntmps167
 go_wp2_with fail
 generalize w.alloc (.cells #[p,m,mv] 24)=w1 at *;have HW:=Aa e0.size;obtain⟨xb,aA⟩:=nA w.heap.size;rw[aA]at d0 d1 d2
 try simp only[aA]
 have HXB:=Aa aA;clear aA
 go_region_held3 (fun w'=>w'.cell? (xb,0)=some (.int .i64 p)/\w'.cell? (xb,1)=some (.int .i64 m)/\w'.cell? (xb,2)=some mv/\Ex w w')
  (first|exact⟨d0,d1,d2,e0.drew⟩|exact⟨hx1.cell d0,hx1.cell d1,hx1.cell d2,e0.drew.trans hx1⟩|(obtain⟨k0,k1,k2,k3⟩:=‹_/\_/\_/\Ex w _›;exact⟨hx1.cell k0,hx1.cell k1,hx1.cell k2,k3.trans hx1⟩))
  ((first
      | (go_at_call 207;refine(HI.o _).mono ?_;rintro e w2⟨rfl,hx1⟩)
      | (go_at_call 171;refine(JI _ _ _ _ aB ac ac ac).mono ?_;rintro e w3⟨v,rfl,⟨g,rfl,hg1,hg2⟩,hx1⟩)))
 go_wp2_with fail
 go_ret;have hE:=(‹_/\_/\_/\Ex w _›).2.2.2;exact⟨_,rfl,⟨g,rfl,hg2.mono (by
  have:=hx1.size;have h1:=(e0.drew.trans ‹Ex w1.drew w2›).size;omega)⟩,hE⟩
theorem zc7{P:Prop}(h:P:=by
 go_wp2_with fail
 go_ret;exact⟨Ai HF.o.symm,e0.trans hx⟩):P:=h
theorem Hr(w:World)(hf:Gg p m ml)(l:List Int)(v:Value)(hl:Ak w v l)(hb:∀x∈l,0<=x/\x<p)(hq:p^l.length<=65536):
  Calls Tryz.prog 168 #[.agg #[p,m,mv],v] w fun r w'=>r= .returned (.int .i64 (vl p l))/\Ex w w':=by
 obtain⟨d0,d1,d2,e0,_⟩:=AA w p m mv;obtain⟨a,cap,rfl,s1,s2,s3⟩:=(hl.ex e0).open;have p2:=hf.p2;have p256:=hf.p256;have hp:1<=p:=ac;unfold maxLen at s2;have S3:=Aa s3;have HV:Hia (vl p l=vl p (l.drop 0)):=Aa (rfl);have HR:Hia (∀k,0<=vl p (l.drop k)/\vl p (l.drop k)*(p:Int)<=16777216/\vl p (l.drop k)<=65536):=Aa (fun k=>by
  obtain⟨h1,h2⟩:=Rk hp (l.drop k) fun x hx=>hb x (List.mem_of_mem_drop hx);have h3:p^(l.drop k).length<=p^l.length:=Nat.pow_le_pow_right hp (by rw[ιr];omega);have h4:=Int.mul_le_mul (show vl p (l.drop k)<=65536 by omega) (show(p:Int)<=256 by omega) ac ac;exact⟨h1,h4,ac⟩)
 have HX:Hia (∀(k:Nat) (x:Int),l[k]?=some x->0<=x/\x<=256):=Aa (fun k x h=>by have:=hb x (List.mem_of_getElem? h);omega);have HN:=Aa (show vl p (l.drop l.length)=0 by rw[List.drop_length];rfl);clear hl s3 hb hq hf;go_enter Tryz.func168,Tryz.ntmps168
 go_wp2_with fail
 generalize w.alloc (.cells #[p,m,mv] 24)=w1 at *
 go_loopw [5,6] (fun x' i' wr=>∃k:Nat,k<=l.length/\i'= .int .i64 ((k:Int)-1)/\x'= .int .i64 (vl p (l.drop k))/\Ex w1 wr) (fun _ i' _=>(intOf i'+1).toNat)
 case atStart=>exact⟨l.length,ac,rfl,by rw[HN.o],Ex.refl _⟩
 case round=>
  obtain⟨k,hk,rfl,rfl,hx⟩:=hrel;obtain⟨r1,r2,r3⟩:=HR.o k;rcases k with _|k
  .have HF:=Aa HV.o;generalize vl p (l.drop 0)=y at *;exact zc7
  .have r0:0<=vl p (l.drop (k+1))*(p:Int):=Int.mul_nonneg r1 ac;obtain⟨x,aA⟩:∃x,l[k]?=some x:=⟨_,List.getElem?_eq_getElem ac⟩;obtain⟨b,o,rfl,hc⟩:=S3.o ac;have c1:=hx.cell (hc k x aA);have c0:=hx.cell d0;obtain⟨x1,x2⟩:=HX.o k x aA;have HG:=Aa (codGo p l k x aA);have e:(((k+1:Nat)):Int)-1=k:=by omega
   rw[e];have hkl:k<l.length:=ac;clear hc aA e;generalize vl p (l.drop (k+1))=y at *;have i1:IntKind.i64.wrap (y*(p:Int))=y*(p:Int):=ρ _ ac;have i2:IntKind.i64.wrap (y*(p:Int)+x)=y*(p:Int)+x:=ρ _ ac;go_wp2_with fail
   go_quiet (fail)
   clear i1 i2;go_wp2_with fail
   go_roundw
   case rel=>exact⟨k,ac,rfl,by rw[HG.o],hx.drewN _⟩
   case measure=>simp[intOf]
end
section
variable {p m:Nat} {ml:List Int} {mv:Value}
theorem Oz{n:Nat}{f:Nat->Int}{z:Int}(h:z∈il n f):∃j,j<n/\f j=z:=by
 obtain⟨j,hj,rfl⟩:=List.mem_map.1 h;exact⟨j,κ.1 hj,rfl⟩
theorem Pu{α:Type}(A B:Nat->α)(i:Nat):∀j,Ay (fun j=>if j<i then A j else B j) i (A i) j=if j<i+1 then A j else B j:=fun j=>by
 unfold Ay;by_cases h:j=i
 .subst h;rw[if_pos rfl,if_pos ac]
 .rw[if_neg h];dsimp only;by_cases h2:j<i
  .rw[if_pos h2,if_pos ac]
  .rw[if_neg h2,if_neg ac]
theorem Wy(w:World)(hf:Gg p m ml)(aM:Ak w mv ml)(x y:Int):
  Calls Tryz.prog 266 #[.agg #[p,m,mv],x,y] w fun r w'=>r= .returned (.int .i64 (AK p m (Av (p^m) x) (Av (p^m) y):Nat))/\Ex w w':=by
 obtain⟨d0,d1,d2,e0,aL⟩:=AA w p m mv;have aW:=Aa (fun w=>Ec (mv:=mv) w hf x);have aV:=Aa (fun w=>Ec (mv:=mv) w hf y);have aQ:=Aa (fun w l v h1 h2 h3=>Hr (mv:=mv) w hf l v h1 h2 h3);have p2:=hf.p2;have m8:=hf.m8;have p256:=hf.p256;have hq:=hf.q;have HK:=Aa (Qj (show 1<=p by omega) m (Av (p^m) x) (Av (p^m) y));generalize Av (p^m) x=z at *;generalize Av (p^m) y=t at *;have aP:=Aa (DF (show 1<=p by omega) m z);have aO:=Aa (DF (show 1<=p by omega) m t);have HQ:=Aa hq;clear hf aM hq;go_enter Tryz.func266,Tryz.ntmps266
 go_wp2_with fail
 generalize w.alloc (.cells #[p,m,mv] 24)=w1 at *;refine(aW.o _).mono ?_;rintro e w2⟨v,rfl,⟨g,rfl,hg⟩,aC⟩;have r0:=aC.cell d0;have r1:=aC.cell d1;have r2:=aC.cell d2;go_wp2_with fail
 refine(aV.o _).mono ?_;rintro e w3⟨v,rfl,⟨k,rfl,hk⟩,aF⟩;have aN:g≠k:=by
  have:=hg.lt.2;have:=hk.lt.1;omega
 have aI:=Aa (show AJ w3 w1.heap.size 3 g m (iv fun j=>if j<0 then(AO p m z j+AO p m t j)%(p:Int) else AO p m z j) from(hg.ex aF).icongr fun j _=>ag);have aH:=Aa (hk.mono (show w1.heap.size<=w2.heap.size from aC.size));have aA:=aC.trans aF;have HE:=Aa e0;have HS:=Aa (e0.size);have s0:=aA.cell d0;have s1:=aA.cell d1;have s2:=aA.cell d2;clear hg hk aC aF r0 r1 r2 e0 aL;go_wp2_with fail
 clear s0 s1 s2
 go_loopw [9] (fun i' wr=>∃i:Nat,i<=m/\i'= .int .i64 i/\Hia (AJ wr w1.heap.size 3 g m (iv fun j=>if j<i then(AO p m z j+AO p m t j)%(p:Int) else AO p m z j))/\Hia (AJ wr w1.heap.size 3 k m (iv (AO p m t)))/\Ex w1 wr) (fun i' _=>m-(intOf i').toNat)
 case atStart=>exact⟨0,ac,rfl,aI,aH,aA⟩
 case round=>
  clear aI aH aA;obtain⟨i,hi,rfl,aB,aE,hx⟩:=hrel;have c0:=hx.cell d0;have c1:=hx.cell d1;have c2:=hx.cell d2;by_cases hlt:i<m
  .have ca:wr.cell? (g,i)=some (.int .i64 (AO p m z i)):=by rw[aB.o.cell hlt];unfold iv;simp
   have cb:wr.cell? (k,i)=some (.int .i64 (AO p m t i)):=aE.o.cell hlt;have fa:=aB.o.frz i;obtain⟨z1,z2⟩:=aP.o i;obtain⟨t1,t2⟩:=aO.o i;obtain⟨aG,aS,aR,aJ⟩:=Of (aB.o.set i (.int .i64 ((AO p m z i+AO p m t i)%(p:Int)))) (aE.o.other (a:=⟨g,i,none⟩) aN.symm (.int .i64 ((AO p m z i+AO p m t i)%(p:Int)))) (aB.o.exSet (ζ _) hx i (.int .i64 ((AO p m z i+AO p m t i)%(p:Int)))) (Pu (fun j=>(AO p m z j+AO p m t j)%(p:Int)) (fun j=>AO p m z j) i);have aU:Hia (AJ (wr.setCell (g,i) (.int .i64 ((AO p m z i+AO p m t i)%(p:Int)))) w1.heap.size 3 g m (iv fun j=>if j<i+1 then(AO p m z j+AO p m t j)%(p:Int) else AO p m z j)):=Aa (by
    have:=aG.o;rw[CF]at this;exact this.icongr fun j _=>aJ.o j)
   clear aG aJ aB aE;generalize AO p m z i=u at *;generalize AO p m t i=v at *;have i1:IntKind.i64.wrap (u+v)=u+v:=ρ _ ac;have i2:(u+v).tmod (p:Int)=(u+v)%(p:Int):=Φ ac;have p0:¬p=0:=bz;go_wp2_with fail
   go_still_tail 15,ah
   change wpList _ _ _ _ _ wr.drew
   clear i1 i2;go_wp2_with fail
   go_roundw
   case rel=>exact⟨i+1,ac,by go_num,Aa aU.o.drew,Aa aS.o.drew,aR.o.drew⟩
   case measure=>exact Ωm
  .obtain rfl:i=m:=by omega
   have aD:AJ wr w1.heap.size 3 g i (iv fun j=>(AO p i z j+AO p i t j)%(p:Int)):=aB.o.icongr fun j hj=>if_pos hj;have HL:=Aa aD.isl;have HB:Hia (∀a∈il i (fun j=>(AO p i z j+AO p i t j)%(p:Int)),0<=a/\a<p):=Aa (fun a ha=>by
    obtain⟨j,_,rfl⟩:=Oz ha;exact⟨γw _ ac,γi _ ac⟩)
   have aT:=Aa (show p^(il i (fun j=>(AO p i z j+AO p i t j)%(p:Int))).length<=65536 by rw[Ao];have:=HQ.o;omega);have HR:=Aa (show vl p (il i (fun j=>(AO p i z j+AO p i t j)%(p:Int)))=((AK p i z t:Nat):Int) by rw[Pq,HK.o]);clear aD aB aE;go_wp2_with fail
   refine(aQ.o _ _ _ HL.o HB.o aT.o).mono ?_;rintro e w4⟨rfl,aK⟩;go_wp2_with fail
   go_ret;exact⟨Ai HR.o,(HE.o.trans hx).trans aK⟩
theorem Wv(w:World)(hf:Gg p m ml)(x:Int):
  Calls Tryz.prog 246 #[.agg #[p,m,mv],x] w fun r w'=>r= .returned (.int .i64 (CL p m (Av (p^m) x):Nat))/\Ex w w':=by
 obtain⟨d0,d1,d2,e0,aH⟩:=AA w p m mv;have aQ:=Aa (fun w=>Ec (mv:=mv) w hf x);have aJ:=Aa (fun w l v h1 h2 h3=>Hr (mv:=mv) w hf l v h1 h2 h3);have p2:=hf.p2;have m8:=hf.m8;have p256:=hf.p256;have hq:=hf.q;have HK:=Aa (Qi (show 1<=p by omega) m (Av (p^m) x));generalize Av (p^m) x=z at *;obtain⟨F,hF⟩:∃F:Nat->Int,(fun j=>((p:Int)-AO p m z j)%(p:Int))=F:=⟨_,rfl⟩;have aP:=Aa (fun j=>congrFun hF j);have aO:Hia (∀j,0<=F j/\F j<p):=Aa (fun j=>by rw[<-hF];exact⟨γw _ ac,γi _ ac⟩);rw[hF]at HK;clear hF;have aI:=Aa (DF (show 1<=p by omega) m z);have HQ:=Aa hq;clear hf hq;go_enter Tryz.func246,Tryz.ntmps246
 go_wp2_with fail
 generalize w.alloc (.cells #[p,m,mv] 24)=w1 at *;refine(aQ.o _).mono ?_;rintro e w2⟨v,rfl,⟨g,rfl,hg⟩,aB⟩;have aE:Hia (AJ w2 w1.heap.size 3 g m (iv fun j=>if j<0 then F j else AO p m z j)):=Aa (hg.icongr fun j _=>ag);have HE:=Aa e0;have s0:=aB.cell d0;have s1:=aB.cell d1;have s2:=aB.cell d2;clear hg e0 aH;go_wp2_with fail
 clear s0 s1 s2
 go_loopw [6] (fun i' wr=>∃i:Nat,i<=m/\i'= .int .i64 i/\Hia (AJ wr w1.heap.size 3 g m (iv fun j=>if j<i then F j else AO p m z j))/\Ex w1 wr) (fun i' _=>m-(intOf i').toNat)
 case atStart=>exact⟨0,ac,rfl,aE,aB⟩
 case round=>
  clear aE aB;obtain⟨i,hi,rfl,aA,hx⟩:=hrel;have c0:=hx.cell d0;have c1:=hx.cell d1;have c2:=hx.cell d2;by_cases hlt:i<m
  .have ca:wr.cell? (g,i)=some (.int .i64 (AO p m z i)):=by rw[aA.o.cell hlt];unfold iv;simp
   have fa:=aA.o.frz i;obtain⟨z1,z2⟩:=aI.o i;have aD:=Aa (aA.o.set i (.int .i64 (F i)));have aK:=Aa (aA.o.exSet (ζ _) hx i (.int .i64 (F i)));have aF:=Aa (Pu F (fun j=>AO p m z j) i);have aN:Hia (AJ (wr.setCell (g,i) (.int .i64 (F i))) w1.heap.size 3 g m (iv fun j=>if j<i+1 then F j else AO p m z j)):=Aa (by
    have:=aD.o;rw[CF]at this;exact this.icongr fun j _=>aF.o j)
   clear aD aF aA;have i3:((p:Int)-AO p m z i)%(p:Int)=F i:=aP.o i;have aM:=Aa i3;clear i3;generalize AO p m z i=u at *;have i1:IntKind.i64.wrap ((p:Int)-u)=(p:Int)-u:=ρ _ ac;have i2:((p:Int)-u).tmod (p:Int)=F i:=by rw[Φ ac];exact aM.o
   have p0:¬p=0:=ac;go_wp2_with fail
   go_still_tail 13,ah
   change wpList _ _ _ _ _ wr.drew
   clear i1 i2;go_wp2_with fail
   go_roundw
   case rel=>exact⟨i+1,ac,by go_num,Aa aN.o.drew,aK.o.drew⟩
   case measure=>exact Ωm
  .obtain rfl:i=m:=by omega
   have aC:AJ wr w1.heap.size 3 g i (iv F):=aA.o.icongr fun j hj=>if_pos hj;have HL:=Aa aC.isl;have HB:Hia (∀a∈il i F,0<=a/\a<p):=Aa (fun a ha=>by
    obtain⟨j,_,rfl⟩:=Oz ha;exact aO.o j)
   have aL:=Aa (show p^(il i F).length<=65536 by rw[Ao];have:=HQ.o;omega);have HR:=Aa (show vl p (il i F)=((CL p i z:Nat):Int) by rw[Pq,HK.o]);clear aC aA;go_wp2_with fail
   refine(aJ.o _ _ _ HL.o HB.o aL.o).mono ?_;rintro e w4⟨rfl,aG⟩;go_wp2_with fail
   go_ret;exact⟨Ai HR.o,(HE.o.trans hx).trans aG⟩
end
def Bb(w:World)(base:Nat)(e:TypeId)(g n cap:Nat)(c:Nat->Value):Prop:=w.ownsRow base e 1 (.slice (some (g,0)) n cap) n (vs n c)
section
variable {w:World} {base:Nat} {e:TypeId} {g n cap:Nat} {c:Nat->Value}
theorem Bb.cell(h:Bb w base e g n cap c){j:Nat}(hj:j<n):w.cell? (g,j)=some (c j):=by
 rw[World.ownsRow.cellAt h j ac,Dn hj]
theorem Bb.frz(h:Bb w base e g n cap c)(j:Nat):w.frozen? (g,j)=false:=World.ownsRow.frozenAt h j
theorem Bb.set(h:Bb w base e g n cap c)(j:Nat)(u:Value):Bb (w.setCell (g,j) u) base e g n cap (Ay c j u):=by
 have:=(World.ownsRow.stored h j u).1
 rwa[VV]at this
theorem Bb.congr{d:Nat->Value}(h:Bb w base e g n cap c)(hc:∀j,j<n->c j=d j):Bb w base e g n cap d:=by
 unfold Bb at *
 rwa[Pp hc]at h
theorem Bb.icongr{f k:Nat->Int}(h:Bb w base e g n cap (iv f))(hc:∀j,j<n->f j=k j):Bb w base e g n cap (iv k):=
 h.congr fun j hj=>congrArg (Value.int .i64) (hc j hj)
theorem Bb.ex{w':World}(h:Bb w base e g n cap c)(hx:Ex w w'):Bb w' base e g n cap c:=Ag h hx
theorem Bb.drew(h:Bb w base e g n cap c):Bb w.drew base e g n cap c:=h
theorem Bb.drewN(h:Bb w base e g n cap c)(k:Nat):Bb (w.drewN k) base e g n cap c:=h.ex ((Ex.refl w).drewN k)
theorem Bb.lt(h:Bb w base e g n cap c):base<=g/\g<w.heap.size:=World.ownsRow.lt h g rfl
theorem Bb.caps(h:Bb w base e g n cap c):n<=cap/\cap<=maxLen:=by
 rcases h.2 with⟨h',_⟩|⟨g',cap',cur,h',_,hg,h1,h2,_⟩
 .simp at h'
 .simp only[Value.slice.injEq,Option.some.injEq,Addr.mk.injEq,and_true,true_and]at h';obtain⟨_,rfl⟩:=h';exact⟨h1,h2⟩
theorem Bb.other(h:Bb w base e g n cap c){a:Addr}(ha:g≠a.block)(u:Value):Bb (w.setCell a u) base e g n cap c:=
 Ae h (fun e=>ha (by simpa[Value.ownBlock]using e)) u
theorem Bb.exSet{a:World}(h:Bb w base e g n cap c)(hb:a.heap.size<=base)(hx:Ex a w)(j:Nat)(u:Value):Ex a (w.setCell (g,j) u):=
 hx.setCell (p:=⟨g,j,none⟩) (μ hb h.lt.1) u
theorem Bb.sl(h:Bb w base e g n cap c):Sl w (.slice (some (g,0)) n cap) n 1 (vs n c):=Sl.own h
theorem Bb.isl{f:Nat->Int}(h:Bb w base e g n cap (iv f)):Ak w (.slice (some (g,0)) n cap) (il n f):=by
 unfold Ak;rw[Ao,Cy];exact h.sl
theorem J7{v:Value}(h:w.ownsRow base e 1 v n (vs n c))(hn:1<=n):∃g cap,v= .slice (some ⟨g,0,none⟩) n cap/\Bb w base e g n cap c:=by
 rcases h.2 with⟨_,h0⟩|⟨g,cap,cur,rfl,_⟩
 .omega
 .exact⟨g,cap,rfl,h⟩
end
section
open Go.Shelf
def Tryz.lays189_ren:Go.Shelf.Ren:=⟨fun | 189=>125 | 125=>178 | 257=>177 | 128=>221 | 129=>222 | 294=>212 | 295=>213 | 296=>214 | 297=>215 | 298=>216 | 299=>217 | 216=>218 | 300=>219 | 301=>220 | 328=>255 | 329=>256 | 330=>257 | 331=>258 | 332=>259 | 215=>260 | 343=>267|n=>n,fun | 28=>22 | 3=>3 | 46=>146 | 0=>0 | 51=>91 | 53=>77 | 4=>4 | 183=>248 | 182=>247 | 131=>253 | 5=>5 | 9=>9 | 218=>278 | 222=>282 | 228=>289 | 229=>203|n=>n,fun|n=>n⟩
theorem Tryz.lays189:Go.Proofs.Lays.n189 Tryz.prog Tryz.lays189_ren:= {
 mixed:=ah
 f125:=Tryz.func178.trans (congrArg some ah)
 f128:=Tryz.func221.trans (congrArg some ah)
 f129:=Tryz.func222.trans (congrArg some ah)
 f189:=Tryz.func125.trans (congrArg some ah)
 f215:=Tryz.func260.trans (congrArg some ah)
 f216:=Tryz.func218.trans (congrArg some ah)
 f257:=Tryz.func177.trans (congrArg some ah)
 f294:=Tryz.func212.trans (congrArg some ah)
 f295:=Tryz.func213.trans (congrArg some ah)
 f296:=Tryz.func214.trans (congrArg some ah)
 f297:=Tryz.func215.trans (congrArg some ah)
 f298:=Tryz.func216.trans (congrArg some ah)
 f299:=Tryz.func217.trans (congrArg some ah)
 f300:=Tryz.func219.trans (congrArg some ah)
 f301:=Tryz.func220.trans (congrArg some ah)
 f328:=Tryz.func255.trans (congrArg some ah)
 f329:=Tryz.func256.trans (congrArg some ah)
 f330:=Tryz.func257.trans (congrArg some ah)
 f331:=Tryz.func258.trans (congrArg some ah)
 f332:=Tryz.func259.trans (congrArg some ah)
 f343:=Tryz.func267.trans (congrArg some ah)
 t0:=Tryz.underlying0
 a0:=Tryz.isAgg0
 z0:=Tryz.sizeOf0
 v0:=Tryz.zeroValue0
 t3:=Tryz.underlying3
 a3:=Tryz.isAgg3
 z3:=Tryz.sizeOf3
 v3:=Tryz.zeroValue3
 t4:=Tryz.underlying4
 a4:=Tryz.isAgg4
 z4:=Tryz.sizeOf4
 v4:=Tryz.zeroValue4
 t5:=Tryz.underlying5
 a5:=Tryz.isAgg5
 z5:=Tryz.sizeOf5
 v5:=Tryz.zeroValue5
 t9:=Tryz.underlying9
 a9:=Tryz.isAgg9
 z9:=Tryz.sizeOf9
 v9:=Tryz.zeroValue9
 t28:=Tryz.underlying22
 a28:=Tryz.isAgg22
 z28:=Tryz.sizeOf22
 v28:=Tryz.zeroValue22
 t46:=Tryz.underlying146
 a46:=Tryz.isAgg146
 z46:=Tryz.sizeOf146
 v46:=Tryz.zeroValue146
 t51:=Tryz.underlying91
 a51:=Tryz.isAgg91
 z51:=Tryz.sizeOf91
 v51:=Tryz.zeroValue91
 t53:=Tryz.underlying77
 a53:=Tryz.isAgg77
 z53:=Tryz.sizeOf77
 v53:=Tryz.zeroValue77
 t131:=Tryz.underlying253
 a131:=Tryz.isAgg253
 z131:=Tryz.sizeOf253
 v131:=Tryz.zeroValue253
 t182:=Tryz.underlying247
 a182:=Tryz.isAgg247
 z182:=Tryz.sizeOf247
 v182:=Tryz.zeroValue247
 t183:=Tryz.underlying248
 a183:=Tryz.isAgg248
 z183:=Tryz.sizeOf248
 v183:=Tryz.zeroValue248
 t218:=Tryz.underlying278
 a218:=Tryz.isAgg278
 z218:=Tryz.sizeOf278
 v218:=Tryz.zeroValue278
 t222:=Tryz.underlying282
 a222:=Tryz.isAgg282
 z222:=Tryz.sizeOf282
 v222:=Tryz.zeroValue282
 t228:=Tryz.underlying289
 a228:=Tryz.isAgg289
 z228:=Tryz.sizeOf289
 v228:=Tryz.zeroValue289
 t229:=Tryz.underlying203
 a229:=Tryz.isAgg203
 z229:=Tryz.sizeOf203
 v229:=Tryz.zeroValue203 }
open Go.Sort Go.RowKit in
theorem Tryz.slices_Sort_int (blk aA cap:Nat) (zs:List Int) (w:World) (hH:Holds (Value.int .i64) w blk aA zs.toArray) (aB:blk<w.heap.size) (aC:zs.length<4611686018427387904):
  Calls Tryz.prog 125 #[.slice (some (blk,aA)) zs.length cap] w fun e w'=>
   e= .returned (.tuple #[])/\∃n os,w'=grow (putRow (Value.int .i64) (Sort.ahead w n) blk aA (zs.mergeSort fun x y=>decide (x<=y)).toArray) os:=Any.slices_Sort_int Tryz.lays189 blk aA cap zs w hH aB aC
end
end Go.Proofs.YtehieobniamagaaGreat
