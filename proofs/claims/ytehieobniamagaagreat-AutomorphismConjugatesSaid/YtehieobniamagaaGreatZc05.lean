/- The values of a long region whose operations fill one slot after the other. -/
import Derived.Test.YtehieobniamagaaGreatZc04
namespace Go.Proofs.YtehieobniamagaaGreat
open Go.RowKit
set_option linter.all false
set_option maxRecDepth 100000
set_option maxHeartbeats 4000000
def OW:List Oper->Nat->Bool
 | [],_=>true
 | o :: l,s=>(o.dst==some s)&&OW l (s+1)
theorem SZ:∀(A:List Value) (x v:Value) (C:List Value),(A++x :: C).set A.length v=A++v :: C
 | [],x,v,C=>rfl
 | a :: A,x,v,C=>by
  show a :: (A++x :: C).set A.length v=_
  rw[SZ A x v C];rfl
def Pr(V:Nat->Value):Nat->Nat->List Value
 | _,0=> []
 | k,n+1=>V k :: Pr V (k+1) n
theorem PX:∀(l:List Oper) (V:Nat->Value) (k:Nat) (A B C:List Value) (D:List Deferred),B.length=l.length->OW l A.length=true->Cm l V k ⟨(A++(B++C)).toArray,D⟩=⟨(A++(Pr V k l.length++C)).toArray,D⟩
 | [],V,k,A,B,C,D,hB,_=>by
  have:B= []:=List.length_eq_zero_iff.1 hB;subst this;rfl
 | o :: l,V,k,A, [],C,D,hB,_=>by simp at hB
 | o :: l,V,k,A,x :: B,C,D,hB,h=>by
  unfold OW at h;rw[Bool.and_eq_true,beq_iff_eq]at h;have e:Act.put ⟨(A++(x :: B++C)).toArray,D⟩ o.dst (V k)=⟨((A ++ [V k])++(B++C)).toArray,D⟩:=by
   rw[h.1];show Act.mk ((A++(x :: B++C)).toArray.setIfInBounds A.length (V k)) D=_
   congr 1
   rw[List.setIfInBounds_toArray];have:=SZ A x (V k) (B++C);rw[show x :: B++C=x :: (B++C) from rfl,this];simp
  show Cm l V (k+1) (Act.put ⟨(A++(x :: B++C)).toArray,D⟩ o.dst (V k))=_
  rw[e,PX l V (k+1) (A ++ [V k]) B C D (by simpa using hB) (by rw[List.length_append];exact h.2)];show _=Act.mk (A++(V k :: Pr V (k+1) l.length++C)).toArray D
  simp
theorem zcv{P:Prop}(h:P:=by
 rw[List.getD_eq_getElem?_getD,List.getElem?_append_right (Nat.le_refl _)];simp):P:=h
theorem KE:∀(vals aA:List Value),Pr (fun k=>(aA++vals).getD k undef) aA.length vals.length=vals
 | [],aA=>rfl
 | v :: vals,aA=>by
  show(aA++v :: vals).getD aA.length undef :: Pr (fun k=>(aA++v :: vals).getD k undef) (aA.length+1) vals.length=v :: vals
  have h1:(aA++v :: vals).getD aA.length undef=v:=by
   exact zcv
  have h2:=KE vals (aA ++ [v]);rw[List.length_append,List.append_assoc]at h2;rw[h1];exact congrArg (v :: ·) h2
theorem bp{P:Prop}(h:P:=by rw[List.length_take];omega):P:=h
theorem Oh{l:List Oper}{vals a:List Value}{D:List Deferred}{P:Act}(hP:Cm l (fun k=>vals.getD k undef) 0 ⟨a.toArray,D⟩=P)(s t:Nat)(h:(OW l s&&(vals.length==l.length&&(s+l.length==t&&decide (t<=a.length))))=true):P=⟨(a.take s++(vals++a.drop t)).toArray,D⟩:=by
 simp only[Bool.and_eq_true,beq_iff_eq,decide_eq_true_eq]at h;obtain⟨h1,h2,h3,h4⟩:=h;subst hP;have e:a=a.take s++((a.drop s).take l.length++a.drop t):=by
  rw[<-h3,<-List.drop_drop,List.take_append_drop,List.take_append_drop]
 have h5:(a.take s).length=s:=bp;have h6:((a.drop s).take l.length).length=l.length:=by rw[List.length_take,List.length_drop];omega
 have h7:=PX l (fun k=>vals.getD k undef) 0 (a.take s) ((a.drop s).take l.length) (a.drop t) D h6 (by rw[h5];exact h1);rw[<-e]at h7;rw[h7,<-h2];have:=KE vals [];simp only[List.nil_append,List.length_nil]at this;rw[this]
def WN:List Oper->Nat->Nat->Option Nat
 | [],_,_=>none
 | o :: l,k,t=>if (o.dst==some t)=true then some k else WN l (k+1) t
theorem II:∀(l:List Oper) (k t j:Nat),WN l k t=some j->∃o,k<=j/\l[j-k]?=some o/\o.dst=some t
 | [],k,t,j,h=>by cases h
 | o :: l,k,t,j,h=>by
  unfold WN at h;split at h
  .rename_i h1;injection h with h;subst h;exact⟨o,Nat.le_refl _,by simp,by simpa using h1⟩
  .obtain⟨o',h2,h3,h4⟩:=II l (k+1) t j h;refine⟨o',ac,?_,h4⟩;rw[show j-k=(j-(k+1))+1 from ac];exact h3
theorem IJ:∀(l:List Oper) (k t:Nat),WN l k t=none->(l.all fun o=>o.dst !=some t)=true
 | [],k,t,h=>rfl
 | o :: l,k,t,h=>by
  unfold WN at h;split at h
  .cases h
  .rename_i h1;rw[List.all_cons,IJ l (k+1) t h,Bool.and_true];simpa using h1
def lkS(l:List Oper)(pv:Nat->Value)(a0:Act)(o:Oper)(t:Nat):Option Value:=match WN l 0 t with
 | some j=>if (o.after.toList.any fun e=>e.on==j&&Region.binds .any e)=true then some (pv j) else none
 | none=>a0.tmps[t]?
theorem Bu.go{P:Program}{Q:Exit->Act->World->Prop}{a0:Act}{l:List Oper}{pv:Nat->Value}{w:World}{i:Nat}{o:Oper}(hw:Ir l pv o=true)
  (h:∀(a:Act) (w':World),(∀t v,lkS l pv a0 o t=some v->a.tmps[t]?=some v)->Ex w w'->∀K:Act->World->Prop,(∀w'',Ex w' w''->K (a.put o.dst (pv i)) w'')->o.wp P a w' K Q):Bu P Q l a0 pv w i o:=
 Bu.on hw fun L a w' aB aA hd hx K hK=>h a w' (fun t v hv=>by
  unfold lkS at hv
  cases hj:WN l 0 t with
  | none=>
   rw[hj]at hv;rw[aA t (IJ l 0 t hj)];exact hv
  | some j=>
   rw[hj]at hv;obtain⟨o',_,h2,h3⟩:=II l 0 t j hj;simp only at hv;split at hv
   .rename_i h4;injection hv with hv;obtain⟨e,he,h5⟩:=List.any_eq_true.1 h4;have he:=Array.mem_toList_iff.1 he;rw[Bool.and_eq_true,beq_iff_eq]at h5;have hL:=hd e he h5.2;rw[h5.1]at hL;rw[<-hv];exact aB j t o' hL h2 h3
   .cases hv) hx K hK
theorem Bu.gd{P:Program}{Q:Exit->Act->World->Prop}{a0:Act}{l:List Oper}{pv:Nat->Value}{w:World}{i:Nat}{o:Oper}(c:Bool)
  (h:c=false->∀(a:Act) (w':World),(∀t v,lkS l pv a0 o t=some v->a.tmps[t]?=some v)->Ex w w'->∀K:Act->World->Prop,(∀w'',Ex w' w''->K (a.put o.dst (pv i)) w'')->o.wp P a w' K Q)
  (h1:c=true->Ir l pv o=false/\pv i=undef:=by rintro rfl;exact⟨rfl,rfl⟩) (h2:c=false->Ir l pv o=true:=by rintro rfl;rfl):Bu P Q l a0 pv w i o:=by
 cases c with
 | true=>exact Bu.off (h1 rfl).1 (h1 rfl).2
 | false=>exact Bu.go (h2 rfl) (h rfl)
theorem Ki{A:Sort _}(x:A):∃y,Hia (x=y):=⟨x,rfl⟩
theorem or_no{x y:Bool}(h:Hia ((x||y)=false)):x=false/\y=false:=by
 have h:=h.o;cases x <;> cases y <;> simp_all
theorem AF.pre{w:World}{base:Nat}{e:TypeId}{g n m:Nat}{f:Nat->Int}(h:AF w base e g n (iv f))(hm:m<=n):Aj w (.slice (some (g,0)) m n) (il m f):=by
 have hn:=h.le;refine⟨by rw[Bf];omega,some ⟨g,0,none⟩,n,by rw[Ao],by rw[Ao];exact hm,hn,fun _=>⟨g,0,rfl,fun j u hu=>?_⟩⟩;rw[Cw]at hu;have hj:j<m:=by have:=(List.getElem?_eq_some_iff.1 hu).1;rwa[Bm]at this
 rw[Dj hj]at hu;injection hu with hu;rw[Nat.zero_add,<-hu];exact h.cell ac
section
variable {p m:Nat} {ml:List Int} {mv:Value}
def Mu(p m:Nat)(ml:List Int)(n i j:Nat)(a b c:Vc):Prop:=Cv p (ap m (lw ml) n c Aw) (fun t=>ap m (lw ml) i a b t+a i*Dv m (lw ml) i (ap m (lw ml) j b Aw) t)
def Yi(p m:Nat)(ml:List Int)(i j:Nat)(c0 c:Vc):Prop:=Cv p (fun t=>ap m (lw ml) i c Aw t) (fun t=>ap m (lw ml) i c0 Aw t-c0 i*Dv m (lw ml) (i-m) (ap m (lw ml) j (lw ml) Aw) t)
theorem bz{P:Prop}(h:P:=by rw[<-hD];exact⟨Int.emod_nonneg _ ac,Int.emod_lt_of_pos _ ac⟩):P:=h
theorem dl{P:Prop}(h:P:=by rw[Int.tmod_eq_emod_of_nonneg ac];exact hD):P:=h
theorem Lc(w:World)(hf:Hh p m ml)(bB:Aj w mv ml)(x y:Int):
  Calls Tryz.prog 114 #[.agg #[p,m,mv],x,y] w fun r w'=>r= .returned (.int .i64 (Al p m (lw ml) (Av (p^m) x) (Av (p^m) y):Nat))/\Ex w w':=by
 obtain⟨d0,d1,d2,e0,bP⟩:=AD w p m mv;have cF:=Aa (fun w=>Ed (mv:=mv) w hf x);have cE:=Aa (fun w=>Ed (mv:=mv) w hf y);have bY:=Aa (fun w l v h1 h2 h3=>H7 (mv:=mv) w hf l v h1 h2 h3);have p2:=hf.p2;have m1:=hf.m1;have m8:=hf.m8;have p256:=hf.p256;have hq:=hf.q;have aL:=hf.len;obtain⟨am,cm,rfl,c1,c2,c3⟩:=(bB.ex e0).open;have C3:=Aa c3;have bV:=Aa aL;unfold maxLen at c2;have cD:=Aa (show ∀j,0<=lw ml j/\lw ml j<p from fun j=>by
  unfold lw;rw[List.getD_eq_getElem?_getD];rcases h:ml[j]? with _|z
  .simp;omega
  .exact hf.rng z (List.mem_of_getElem? h))
 generalize Av (p^m) x=z at *;generalize Av (p^m) y=t at *;obtain⟨bX,bW,aS,aZ,HQ⟩:=Of (DF (show 1<=p by omega) m z) (DF (show 1<=p by omega) m t) (Bq p m t) (fun c h1 h2=>Zl (p:=p) (m:=m) (low:=lw ml) (show 1<=p by omega) (x:=z) (y:=t) (c:=c) h1 h2) hq;obtain⟨N,hN⟩:=nA (2*m-1);have hN1:(2:Int)*m-1=(N:Int):=by omega
 have bH:N=2*m-1:=hN.symm;clear hf bB hq c3 aL hN;go_enter Tryz.func114,Tryz.ntmps114
 go_wp2_with fail
 generalize w.alloc (.cells #[p,m,.slice am ml.length cm] 24)=w1 at *;refine(cF.o _).mono ?_;rintro e w2⟨v,rfl,⟨g,rfl,hg⟩,aJ⟩;have r0:=aJ.cell d0;have r1:=aJ.cell d1;have r2:=aJ.cell d2;go_wp2_with fail
 refine(cE.o _).mono ?_;rintro e w3⟨v,rfl,⟨k,rfl,hk⟩,aI⟩;have s0:=aI.cell r0;have s1:=aI.cell r1;have s2:=aI.cell r2;have HG:=Aa (hg.ex aI);have aY:=Aa (hk.mono (show w1.heap.size<=w2.heap.size from aJ.size));have aE:=aJ.trans aI;have HE:=Aa e0;have aN:=Aa bH;clear r0 r1 r2 hg hk aJ aI e0 bP bH;go_wp2_with (at_make;refine Ar _ rfl _ _ 22 rfl 3 (.int .i64 0) 8 Tryz.underlying22 Az rfl _ N rfl rfl ac (by have:=aN.o;omega) (by have:=aN.o;unfold maxLen;omega) ?_)
 intro w4 aK aO;obtain⟨h,hh⟩:=nA w3.heap.size;have bT:g<h:=by rw[<-hh];exact HG.o.lt.2
 have bR:k<h:=by rw[<-hh];exact aY.o.lt.2
 obtain⟨bJ,bL,bK,HH⟩:=Eq (show AF w4 w1.heap.size 3 h N (iv fun _=>0) by rw[<-hh];exact aK.mono aE.size) (HG.o.ex aO) (aY.o.ex aO) hh;have aD:=aE.trans aO;have bM:=Aa (show Mu p m ml N 0 0 (AK p m z) (AK p m t) (fun _=>0) from Vl (m:=m) (low:=lw ml) p N _ _);have cG:=Aa (show ∀i j c,i+j<N->Mu p m ml N i j (AK p m z) (AK p m t) c->Mu p m ml N i (j+1) (AK p m z) (AK p m t) (Iv c (i+j) ((c (i+j)+AK p m z i*AK p m t j)%(p:Int))) from fun i j c h1 h2=>Vm (m:=m) (low:=lw ml) h1 h2);have cH:=Aa (show ∀i c,Mu p m ml N i m (AK p m z) (AK p m t) c->Mu p m ml N (i+1) 0 (AK p m z) (AK p m t) c from fun i c h1=>XR (m:=m) (low:=lw ml) aS.o h1);have q0:=aD.cell d0;have q1:=aD.cell d1;have q2:=aD.cell d2;simp only[hh];clear aK aE aO HG aY hh s0 s1 s2;go_wp2_with fail
 clear q0 q1 q2
 go_loopw [10,11] (fun i' _ wr=>∃(i:Nat) (c:Nat->Int),i<=m/\i'= .int .i64 i/\Hia (AF wr w1.heap.size 3 h N (iv c))/\Hia (∀j,0<=c j/\c j<p)/\Hia (Mu p m ml N i 0 (AK p m z) (AK p m t) c)/\Hia (AF wr w1.heap.size 3 g m (iv (AK p m z)))/\Hia (AF wr w1.heap.size 3 k m (iv (AK p m t)))/\Ex w1 wr) (fun i' _ _=>m-(intOf i').toNat)
 case atStart=>exact⟨0,fun _=>0,ac,rfl,bJ,Aa (fun j=>⟨Int.le_refl 0,(by omega:(0:Int)<p)⟩),bM,bL,bK,aD⟩
 case round=>
  clear bJ bM bL bK aD;obtain⟨i,c,hi,rfl,aA,aB,aH,aG,aF,hx⟩:=hrel;have q0:=hx.cell d0;have q1:=hx.cell d1;have q2:=hx.cell d2;by_cases hlt:i<m
  .obtain⟨wo,rfl⟩:∃wo:World,wo=wr:=⟨_,rfl⟩;go_wp2_with fail
   clear q0 q1 q2
   go_loopw [11] (fun j' wr=>∃(j:Nat) (c:Nat->Int),j<=m/\j'= .int .i64 j/\Hia (AF wr w1.heap.size 3 h N (iv c))/\Hia (∀j,0<=c j/\c j<p)/\Hia (Mu p m ml N i j (AK p m z) (AK p m t) c)/\Hia (AF wr w1.heap.size 3 g m (iv (AK p m z)))/\Hia (AF wr w1.heap.size 3 k m (iv (AK p m t)))/\Ex w1 wr) (fun j' _=>m-(intOf j').toNat)
   case atStart=>exact⟨0,c,ac,rfl,aA,aB,aH,aG,aF,hx⟩
   case round=>
    clear aA aB aH aG aF hx;obtain⟨j,c,hj,rfl,aA,aB,aH,aG,aF,hx⟩:=hrel;have q0:=hx.cell d0;have q1:=hx.cell d1;have q2:=hx.cell d2;by_cases hlj:j<m
    .have bD:i+j<N:=by have:=aN.o;omega
     have bG:=aG.o.cell hlt;have aM:=aF.o.cell hlj;have bF:=aA.o.cell bD;have hcf:=aA.o.frz (i+j);have aC:=Aa (cG.o i j c bD aH.o);obtain⟨a1,a2⟩:=bX.o i;obtain⟨b1,b2⟩:=bW.o j;obtain⟨e1,e2⟩:=aB.o (i+j);have hva:wr.cell? (g,i)=some (.int .i64 (AK p m z i)):=bG;have bO:wr.cell? (k,j)=some (.int .i64 (AK p m t j)):=aM;have hvc:wr.cell? (h,i+j)=some (.int .i64 (c (i+j))):=bF;clear bG aM bF;generalize AK p m z i=u at *;generalize AK p m t j=v at *;have cI:=Aa (show ∀z,c (i+j)=z->True from fun _ _=>trivial);have e3:0<=u*v:=Int.mul_nonneg a1 b1;have e4:u*v<=65536:=by
      have:=Int.mul_le_mul (show u<=256 by omega) (show v<=256 by omega) ac ac;omega
     obtain⟨D,hD⟩:=nA ((c (i+j)+u*v)%(p:Int));have aQ:0<=D/\D<p:=bz;rw[hD]at aC;obtain⟨aT,cB,cA,aR⟩:=Eq (aA.o.set (i+j) (.int .i64 D)) (aG.o.other (a:=(h,i+j)) (Nat.ne_of_lt bT) (.int .i64 D)) (aF.o.other (a:=(h,i+j)) (Nat.ne_of_lt bR) (.int .i64 D)) (aA.o.exSet (Nat.le_refl _) hx (i+j) (.int .i64 D));have aX:=Aa (show ∀l,0<=Ay c (i+j) D l/\Ay c (i+j) D l<p from fun l=>by
      unfold Ay;split
      .exact aQ
      .exact aB.o l)
     have i1:IntKind.i64.wrap ((i:Int)+j)=(i:Int)+j:=IntWalk.i64_in _ ac;have i2:IntKind.i64.wrap (u*v)=u*v:=IntWalk.i64_in _ ac;have i3:IntKind.i64.wrap (c (i+j)+u*v)=c (i+j)+u*v:=IntWalk.i64_in _ ac;have i4:(c (i+j)+u*v).tmod (p:Int)=D:=dl;have i5:((i:Int)+j).toNat=i+j:=ac;have i6:(i:Int)+j<(N:Int):=ac;have i7:0<=(i:Int)+j:=ac;have p0:¬p=0:=ac;clear hD cI;go_wp2_with fail
     go_still_tail 24,ah
     change wpList _ _ _ _ _ wr.drew
     go_wp2_with fail
     go_roundw
     case rel=>exact⟨j+1,Ay c (i+j) D,ac,by go_num,Aa (by have:=aT.o.drew;rwa[CD]at this),aX,aC,Aa cB.o.drew,Aa cA.o.drew,aR.o.drew⟩
     case measure=>simp[intOf];omega
    .obtain rfl:j=m:=by omega
     have aC:=Aa (cH.o i c aH.o);go_wp2_with fail
     go_roundw
     case rel=>exact⟨i+1,c,ac,by go_num,aA,aB,aC,aG,aF,hx⟩
     case measure=>simp[intOf];omega
  .obtain rfl:i=m:=by omega
   have HT:=Aa (show Cv p (ap i (lw ml) N c Aw) (ap i (lw ml) i (AK p i z) (AK p i t)) from fun s=>by
    rw[aH.o s];have e:Dv i (lw ml) i (ap i (lw ml) 0 (AK p i t) Aw) s=0:=by
     simp only[ap];rw[(Fb i).zero]
    dsimp only;rw[e];simp)
   clear aH aG aF;have aU:=Aa (show ∀(a:Nat) (c:Nat->Int),Yi p i ml a 0 c c from fun a c=>Nm (m:=i) (low:=lw ml) p c);have aV:=Aa (show ∀(a j:Nat) (c c0:Nat->Int),i<=a->j<i->Yi p i ml a j c0 c->c a=c0 a->Yi p i ml a (j+1) c0 (Iv c (a-i+j) ((c (a-i+j)+((p:Int)-c a)*lw ml j)%(p:Int))) from fun a j c c0 h1 h2 h3 h4=>PS (m:=i) (low:=lw ml) (T:=c0) h1 h2 h3 h4);have aW:=Aa (show ∀(a:Nat) (c c0:Nat->Int) (T:Vc),i<=a->Cv p (ap i (lw ml) (a+1) c0 Aw) T->Yi p i ml a i c0 c->Cv p (ap i (lw ml) a c Aw) T from fun a c c0 T h1 h2 h3=>S8 (m:=i) (low:=lw ml) m1 h1 h2 h3);go_wp2_with fail
   clear q0 q1 q2
   go_loopw [12,13] (fun i' _ wr=>∃(a:Nat) (c:Nat->Int),i<=a/\a<=N/\i'= .int .i64 ((a:Int)-1)/\Hia (AF wr w1.heap.size 3 h N (iv c))/\Hia (∀j,0<=c j/\c j<p)/\Hia (Cv p (ap i (lw ml) a c Aw) (ap i (lw ml) i (AK p i z) (AK p i t)))/\Ex w1 wr) (fun i' _ _=>(intOf i'+1).toNat)
   case atStart=>exact⟨N,c,by have:=aN.o;omega,Nat.le_refl _,by rw[show(2:Int)*i-2=(N:Int)-1 by omega],aA,aB,HT,hx⟩
   case round=>
    clear aA aB HT hx;obtain⟨a,c,ha1,ha2,rfl,aA,aB,hT,hx⟩:=hrel;have q0:=hx.cell d0;have q1:=hx.cell d1;have q2:=hx.cell d2;by_cases hai:i<a
    .obtain⟨b,rfl⟩:∃b,a=b+1:=⟨a-1,ac⟩;have eb:(((b+1:Nat)):Int)-1=b:=by omega
     rw[eb];have aP:i<=b:=ac;have hbi:(i:Int)<=(b:Int):=ac;clear eb hai;obtain⟨wo,rfl⟩:∃wo:World,wo=wr:=⟨_,rfl⟩;have bI:=Aa (aU.o b c);go_wp2_with fail
     clear q0 q1 q2
     go_loopw [13] (fun j' wr=>∃(j:Nat) (c':Nat->Int),j<=i/\j'= .int .i64 j/\Hia (AF wr w1.heap.size 3 h N (iv c'))/\Hia (∀j,0<=c' j/\c' j<p)/\Hia (Yi p i ml b j c c')/\Hia (c' b=c b)/\Ex w1 wr) (fun j' _=>i-(intOf j').toNat)
     case atStart=>exact⟨0,c,ac,rfl,aA,aB,bI,Aa rfl,hx⟩
     case round=>
      clear aA aB hx bI;obtain⟨j,c',hj,rfl,aA,aB,bA,aM,hx⟩:=hrel;have q0:=hx.cell d0;have q1:=hx.cell d1;have q2:=hx.cell d2;by_cases hlj:j<i
      .have bQ:ml.length=i:=by
        have:=bV.o;rw[if_neg (by have:=aN.o;omega)]at this;exact this
       obtain⟨bb,oo,rfl,bE⟩:=C3.o ac;have hm0:=hx.cell (bE j (lw ml j) (by unfold lw;rw[List.getD_eq_getElem?_getD,List.getElem?_eq_getElem ac];rfl));have aC:=Aa (aV.o b j c' c aP hlj bA.o aM.o);have bU:b<N:=by omega
       have bS:b-i+j<N:=ac;have bC:b-i+j≠b:=ac;have bO:wr.cell? (h,b)=some (.int .i64 (c' b)):=aA.o.cell bU;have hvj:wr.cell? (h,b-i+j)=some (.int .i64 (c' (b-i+j))):=aA.o.cell bS;have hvf:=aA.o.frz (b-i+j);obtain⟨u1,u2⟩:=aB.o b;obtain⟨v1,v2⟩:=aB.o (b-i+j);obtain⟨l1,l2⟩:=cD.o j;have hjl:j<ml.length:=ac;obtain⟨D,hD⟩:=nA ((c' (b-i+j)+((p:Int)-c' b)*lw ml j)%(p:Int));have aQ:0<=D/\D<p:=bz;rw[hD]at aC;have aT:=Aa (aA.o.set (b-i+j) (.int .i64 D));have aR:=Aa (aA.o.exSet (Nat.le_refl _) hx (b-i+j) (.int .i64 D));have aX:=Aa (show ∀l,0<=Ay c' (b-i+j) D l/\Ay c' (b-i+j) D l<p from fun l=>by
        unfold Ay;split
        .exact aQ
        .exact aB.o l)
       have cJ:=Aa (show Ay c' (b-i+j) D b=c b by rw[Ae _ _ (Ne.symm bC)];exact aM.o);generalize lw ml j=lj at *;have e3:0<=((p:Int)-c' b)*lj:=Int.mul_nonneg ac l1;have e4:((p:Int)-c' b)*lj<=65536:=by
        have:=Int.mul_le_mul (show(p:Int)-c' b<=256 by omega) (show lj<=256 by omega) l1 ac;omega
       have i1:IntKind.i64.wrap ((b:Int)-i)=(b:Int)-i:=IntWalk.i64_in _ ac;have i2:IntKind.i64.wrap ((b:Int)-i+j)=(b:Int)-i+j:=IntWalk.i64_in _ ac;have i3:IntKind.i64.wrap ((p:Int)-c' b)=(p:Int)-c' b:=IntWalk.i64_in _ ac;have i4:IntKind.i64.wrap (((p:Int)-c' b)*lj)=((p:Int)-c' b)*lj:=IntWalk.i64_in _ ac;have i5:IntKind.i64.wrap (c' (b-i+j)+((p:Int)-c' b)*lj)=c' (b-i+j)+((p:Int)-c' b)*lj:=IntWalk.i64_in _ ac;have i6:(c' (b-i+j)+((p:Int)-c' b)*lj).tmod (p:Int)=D:=dl;have i7:((b:Int)-i+j).toNat=b-i+j:=ac;have i8:0<=(b:Int)-i+j:=ac;have i9:(b:Int)-i+j<(N:Int):=ac;have p0:¬p=0:=ac;clear hD bE bC bQ;go_wp2_with fail
       go_still_tail 34,ah
       change wpList _ _ _ _ _ wr.drew
       go_wp2_with fail
       go_roundw
       case rel=>exact⟨j+1,Ay c' (b-i+j) D,ac,by go_num,Aa (by have:=aT.o.drew;rwa[CD]at this),aX,aC,cJ,aR.o.drew⟩
       case measure=>simp[intOf];omega
      .obtain rfl:j=i:=by omega
       have bZ:=Aa (aW.o b c' c _ aP hT.o bA.o);go_wp2_with fail
       go_roundw
       case rel=>exact⟨b,c',aP,ac,rfl,aA,aB,bZ,hx⟩
       case measure=>simp[intOf]
    .obtain rfl:a=i:=by omega
     have HL:=Aa (aA.o.pre (show a<=N by omega));have HB:=Aa (show ∀e∈il a c,0<=e/\e<p from fun e he=>by
      obtain⟨j,_,rfl⟩:=OH he;exact aB.o j)
     have cC:=Aa (show p^(il a c).length<=65536 by rw[Ao];have:=HQ.o;omega);have HR:=Aa (show vl p (il a c)=((Al p a (lw ml) z t:Nat):Int) by rw[Pp];exact aZ.o c (fun j _=>aB.o j) hT.o);clear aA aB hT;have i1:(0:Int)<=(a:Int):=by omega
     have i2:(a:Int)<=(N:Int):=ac;go_wp2_with fail
     go_still_tail 5,ah
     change wpList _ _ _ _ _ wr.drew
     go_wp2_with fail
     refine(bY.o _ _ _ (HL.o.ex (Ex.refl _).drew) HB.o cC.o).mono ?_;rintro e w9⟨rfl,bN⟩;go_wp2_with fail
     go_ret;exact⟨Af HR.o,(HE.o.trans hx.drew).trans bN⟩
end
section
variable {p m:Nat} {ml:List Int} {mv:Value}
theorem U7{z:Nat}(h:∀y,1<=y->y<p^m->Al p m (lw ml) z y≠1):Ef p m ml z=0:=by
 unfold Ef;rcases hf:(List.range (p^m)).find? (fun y=>decide (1<=y)&&Al p m (lw ml) z y==1) with _|i
 .rfl
 .exfalso;have h1:=List.find?_some hf;have h2:=List.mem_range.1 (List.mem_of_find?_eq_some hf);simp at h1;exact h i h1.1 h2 h1.2
theorem RV{z y:Nat}(h1:1<=y)(h2:y<p^m)(h3:Al p m (lw ml) z y=1)(h:∀c,1<=c->c<y->Al p m (lw ml) z c≠1):Ef p m ml z=y:=by
 unfold Ef;rcases hf:(List.range (p^m)).find? (fun y=>decide (1<=y)&&Al p m (lw ml) z y==1) with _|i
 .exfalso;have:=List.find?_eq_none.1 hf y (List.mem_range.2 h2);simp[h1,h3]at this
 .have k1:=List.find?_some hf;simp at k1;rcases Nat.lt_trichotomy i y with e|e|e
  .exact absurd k1.2 (h i k1.1 e)
  .exact e
  .exfalso;have:=List.not_of_lt_findIdx (p:=fun y=>decide (1<=y)&&Al p m (lw ml) z y==1) (xs:=List.range (p^m)) (i:=y) (by
    rcases Nat.lt_or_ge y (List.findIdx (fun y=>decide (1<=y)&&Al p m (lw ml) z y==1) (List.range (p^m))) with a|a
    .exact a
    .exfalso;have hk:List.findIdx (fun y=>decide (1<=y)&&Al p m (lw ml) z y==1) (List.range (p^m))<(List.range (p^m)).length:=by simp;omega
     have hq:=List.find?_eq_some_iff_getElem.1 hf;obtain⟨_,j,hj,e1,e2⟩:=hq;simp at e1;subst e1;have:=e2 y ac;simp[h1,h3]at this)
   simp[h1,h3]at this
theorem Wf(w:World)(hf:Hh p m ml)(aE:Aj w mv ml)(x:Int):
  Calls Tryz.prog 244 #[.agg #[p,m,mv],x] w fun r w'=>r= .returned (.int .i64 (Ef p m ml (Av (p^m) x):Nat))/\Ex w w':=by
 obtain⟨d0,d1,d2,e0,aH⟩:=AD w p m mv;have DX:=hf.ord;have hq:=hf.q;obtain⟨aF,HM,aI,HN,HF,aG⟩:=To (fun w=>by have:=DR p m mv w;rw[DX]at this;exact this) (fun w y (h:Aj w mv ml)=>Lc w hf h x y) aE (U7 (p:=p) (m:=m) (ml:=ml) (z:=Av (p^m) x)) (fun y h1 h2 h3 h=>RV (p:=p) (m:=m) (ml:=ml) (z:=Av (p^m) x) (y:=y) h1 h2 h3 h) (fun y (h:y<p^m)=>AA h);generalize Av (p^m) x=z at *;obtain⟨q,aD⟩:=nA (p^m);simp only[aD]at hq aF HM HN HF aG;clear hf aE aD DX aH;go_enter Tryz.func244,Tryz.ntmps244
 go_wp2_with fail
 generalize w.alloc (.cells #[p,m,mv] 24)=w1 at *
 go_loopw [5] (fun y' wr=>∃y:Nat,1<=y/\y'= .int .i64 y/\Hia (∀c,1<=c->c<y->Al p m (lw ml) z c≠1)/\y<=300/\Ex w1 wr) (fun y' _=>300-(intOf y').toNat)
 case atStart=>exact⟨1,ac,rfl,Aa (fun c a b=>ac),ac,Ex.refl _⟩
 case round=>
  obtain⟨y,hy,rfl,aB,hy3,hx⟩:=hrel;have r0:=hx.cell d0;have r1:=hx.cell d1;have r2:=hx.cell d2;go_wp2_with fail
  refine(aF.o _).mono ?_;rintro e w2⟨rfl,aA⟩;have s0:=aA.cell r0;have s1:=aA.cell r1;have s2:=aA.cell r2;by_cases hlt:y<q
  .go_wp2_with fail
   refine(HM.o _ _ (aI.o.ex (e0.trans (hx.trans aA)))).mono ?_;rw[aG.o y hlt];rintro e w3⟨rfl,aC⟩;by_cases h1:Al p m (lw ml) z y=1
   .have hb:(((Al p m (lw ml) z y:Nat):Int)==1)=true:=by simp;omega
    have HR:=Aa (HF.o y hy hlt h1 aB.o);clear h1;generalize Al p m (lw ml) z y=kz at *;go_wp2_with fail
    go_ret;exact⟨Af (by rw[HR.o]),e0.trans ((hx.trans aA).trans aC)⟩
   .have hb:(((Al p m (lw ml) z y:Nat):Int)==1)=false:=by simp;omega
    have HA:=Aa (show ∀c,1<=c->c<y+1->Al p m (lw ml) z c≠1 from fun c a b=>by
     by_cases e:c=y
     .subst e;exact h1
     .exact aB.o c a ac)
    clear h1;generalize Al p m (lw ml) z y=kz at *;go_wp2_with fail
    go_roundw
    case rel=>exact⟨y+1,ac,by go_num,HA,ac,(hx.trans aA).trans aC⟩
    case measure=>simp[intOf];omega
  .have HR:=Aa (HN.o fun c a b=>aB.o c a ac);go_wp2_with fail
   go_ret;exact⟨Af (by rw[HR.o];rfl),e0.trans (hx.trans aA)⟩
end
def Bd(w:World)(base:Nat)(e:TypeId)(g n cap:Nat)(c:Nat->Value):Prop:=w.ownsRow base e 1 (.slice (some (g,0)) n cap) n (vs n c)
section
variable {w:World} {base:Nat} {e:TypeId} {g n cap:Nat} {c:Nat->Value}
theorem Bd.cell(h:Bd w base e g n cap c){j:Nat}(hj:j<n):w.cell? (g,j)=some (c j):=by
 rw[World.ownsRow.cellAt h j ac,Dj hj]
theorem Bd.frz(h:Bd w base e g n cap c)(j:Nat):w.frozen? (g,j)=false:=World.ownsRow.frozenAt h j
theorem Bd.set(h:Bd w base e g n cap c)(j:Nat)(u:Value):Bd (w.setCell (g,j) u) base e g n cap (Ay c j u):=by
 have:=(World.ownsRow.stored h j u).1
 rwa[VE]at this
theorem Bd.congr{d:Nat->Value}(h:Bd w base e g n cap c)(hc:∀j,j<n->c j=d j):Bd w base e g n cap d:=by
 unfold Bd at *
 rwa[Po hc]at h
theorem Bd.icongr{f k:Nat->Int}(h:Bd w base e g n cap (iv f))(hc:∀j,j<n->f j=k j):Bd w base e g n cap (iv k):=
 h.congr fun j hj=>congrArg (Value.int .i64) (hc j hj)
theorem Bd.ex{w':World}(h:Bd w base e g n cap c)(hx:Ex w w'):Bd w' base e g n cap c:=Ai h hx
theorem Bd.drew(h:Bd w base e g n cap c):Bd w.drew base e g n cap c:=h
theorem Bd.drewN(h:Bd w base e g n cap c)(k:Nat):Bd (w.drewN k) base e g n cap c:=h.ex ((Ex.refl w).drewN k)
theorem Bd.lt(h:Bd w base e g n cap c):base<=g/\g<w.heap.size:=World.ownsRow.lt h g rfl
theorem Bd.caps(h:Bd w base e g n cap c):n<=cap/\cap<=maxLen:=by
 rcases h.2 with⟨h',_⟩|⟨g',cap',cur,h',_,hg,h1,h2,_⟩
 .simp at h'
 .simp only[Value.slice.injEq,Option.some.injEq,Addr.mk.injEq,and_true,true_and]at h';obtain⟨_,rfl⟩:=h';exact⟨h1,h2⟩
theorem Bd.other(h:Bd w base e g n cap c){a:Addr}(ha:g≠a.block)(u:Value):Bd (w.setCell a u) base e g n cap c:=
 Ac h (fun e=>ha (by simpa[Value.ownBlock]using e)) u
theorem Bd.exSet{a:World}(h:Bd w base e g n cap c)(hb:a.heap.size<=base)(hx:Ex a w)(j:Nat)(u:Value):Ex a (w.setCell (g,j) u):=
 hx.setCell (p:=(g,j)) (Nat.le_trans hb h.lt.1) u
theorem Bd.sl(h:Bd w base e g n cap c):Sl w (.slice (some (g,0)) n cap) n 1 (vs n c):=Sl.own h
theorem Bd.isl{f:Nat->Int}(h:Bd w base e g n cap (iv f)):Aj w (.slice (some (g,0)) n cap) (il n f):=by
 unfold Aj;rw[Ao,Cw];exact h.sl
theorem Kh{v:Value}(h:w.ownsRow base e 1 v n (vs n c))(hn:1<=n):∃g cap,v= .slice (some ⟨g,0,none⟩) n cap/\Bd w base e g n cap c:=by
 rcases h.2 with⟨_,h0⟩|⟨g,cap,cur,rfl,_⟩
 .omega
 .exact⟨g,cap,rfl,h⟩
end
def MJ(ml:List Int):Vc:=fun j=>if j<ml.length then ml.getD j 0 else if j=ml.length then 1 else 0
def QD(p d:Nat)(low:Vc)(ml:List Int):Bool:=(List.range d).all fun j=>ap d low (ml.length+1) (MJ ml) Aw j%(p:Int)==0
def RdE(p d:Nat)(low:Vc)(i j:Nat)(c0 c:Vc):Prop:=Cv p (fun t=>ap d low i c Aw t) (fun t=>ap d low i c0 Aw t-c0 i*Dv d low (i-d) (ap d low j low Aw) t)
theorem dv_end{p d:Nat}{low:Vc}{ml:List Int}{c:Vc}(hc:∀j,0<=c j/\c j<p)(h:Cv p (ap d low d c Aw) (ap d low (ml.length+1) (MJ ml) Aw)):
  QD p d low ml=(List.range d).all fun j=>c j==0:=by
 unfold QD;rw[Bool.eq_iff_iff,List.all_eq_true,List.all_eq_true];have aA:∀j,j<d->ap d low (ml.length+1) (MJ ml) Aw j%(p:Int)=c j:=fun j hj=>by
  rw[<-h j,Mn d c (Nat.le_refl _)];dsimp only;rw[if_pos hj];exact Int.emod_eq_of_lt (hc j).1 (hc j).2
 constructor
 .intro h1 j hj;have:=h1 j hj
  rwa[aA j (List.mem_range.1 hj)]at this
 .intro h1 j hj;have:=h1 j hj
  rwa[aA j (List.mem_range.1 hj)]
theorem WH(ml:List Int):Ap ml ++ [.int .i64 1]=vs (ml.length+1) (iv (MJ ml)):=by
 apply List.ext_getElem?;intro j;by_cases h1:j<ml.length
 .rw[List.getElem?_append_left (by rw[Bf];exact h1),Dj ac];unfold iv MJ;rw[if_pos h1];simp[Ap,h1,List.getD_eq_getElem?_getD]
 .rw[List.getElem?_append_right (by rw[Bf];omega),Bf];by_cases h2:j=ml.length
  .subst h2;rw[Dj ac];unfold iv MJ;simp
  .rw[show(vs (ml.length+1) (iv (MJ ml)))[j]?=none by rw[List.getElem?_eq_none_iff,Bm];omega];rw[List.getElem?_eq_none_iff];simp;omega
theorem zc4{P:Prop}(h:P:=by
 intro u hu;obtain⟨z,_,rfl⟩:=List.mem_map.1 hu;rfl):P:=h
theorem zc6{P:Prop}(h:P:=by
 go_wp2_with fail
 go_ret;exact⟨Aq HF.o.symm,hx⟩):P:=h
theorem QI(p d:Nat)(low:Vc)(ml:List Int)(lv mv:Value)(w:World)(hp:2<=p)(hp':p<=256)(hd:1<=d)(hdm:d<=ml.length)(hm8:ml.length<=8)
  (bF:Aj w lv (il d low)) (bG:∀j,0<=low j/\low j<p) (bC:Aj w mv ml) (bD:∀x∈ml,0<=x/\x<p):
  Calls Tryz.prog 170 #[lv,mv,p] w fun r w'=>r= .returned (.bool (QD p d low ml))/\Ex w w':=by
 obtain⟨la,lc,rfl,l1,l2,l3⟩:=bF.open;rw[Ao]at *;obtain⟨lb,lo,rfl,l4⟩:=l3 ac;have L4:=Aa (fun j (hj:j<d)=>l4 j _ (AQ hj low));have cA:=Aa bC;have aY:=Aa (show ∀j,0<=MJ ml j/\MJ ml j<p from fun j=>by
  unfold MJ;split
  .rename_i h;rw[List.getD_eq_getElem?_getD,List.getElem?_eq_getElem h];exact bD _ (List.getElem_mem h)
  .split <;> omega)
 have bP:=Aa (fun c h1 h2=>dv_end (p:=p) (d:=d) (low:=low) (ml:=ml) (c:=c) h1 h2);have cB:=Aa (WH ml);have cC:=Aa bG;have bE:∀u∈Ap ml,u.oneCell'=true:=by
  exact zc4
 have bZ:=Aa bE;unfold maxLen at l2;clear bF bC bD l3 l4 bG bE;go_enter Tryz.func170,Tryz.ntmps170
 go_wp2_with (at_builtin;refine A9 _ rfl _ _ 22 rfl w.heap.size 3 (.int .i64 0) 1 8 Tryz.underlying22 Az rfl ae _ 0 [] rfl (Bv w 3) mv ml.length (Ap ml) rfl (cA.o.ex ((Ex.refl w).alloc _)) bZ.o ai ac ag ?_)
 intro v1 w1 aC bH bJ;have aM:Ex w w1:=Ex.grown ((Ex.refl w).alloc _) (Bv w 3) (Nat.le_refl _) bH;obtain⟨va,vc,rfl⟩:=Ad aC;have bK:=Aa aM;have bN:=Aa aC;have bQ:=Aa aM.size;clear bH bJ aC aM;go_wp2_with (at_builtin;refine Am _ rfl _ _ 22 rfl w.heap.size 3 (.int .i64 0) 1 8 Tryz.underlying22 Az rfl ae _ ml.length _ rfl bN.o [.int .i64 1] 3 _ rfl ag rfl aj ai ac bQ.o ?_)
 intro v2 w2 aF;have aB:=aF.own;rw[cB.o]at aB;obtain⟨g,cap,rfl,aD⟩:=Kh aB ac;have aZ:=aF.ex bK.o (Nat.le_refl _);have aQ:=aD.caps;obtain⟨k1,k2⟩:=aQ;unfold maxLen at k2;obtain⟨bM,aJ,aU,aV,aW,bW⟩:=To aD (show ∀j,ml.length+1<=j->j<ml.length+1->MJ ml j=0 from fun j a b=>ac) (show ∀(a:Nat) (c:Nat->Int),RdE p d low a 0 c c from fun a c=>Nm (m:=d) (low:=low) p c) (show ∀(a j:Nat) (c c0:Nat->Int),d<=a->j<d->RdE p d low a j c0 c->c a=c0 a->RdE p d low a (j+1) c0 (Iv c (a-d+j) ((c (a-d+j)+((p:Int)-c a)*low j)%(p:Int))) from fun a j c c0 h1 h2 h3 h4=>PS (m:=d) (low:=low) (T:=c0) h1 h2 h3 h4) (show ∀(a:Nat) (c c0:Nat->Int) (T:Vc),d<=a->Cv p (ap d low (a+1) c0 Aw) T->RdE p d low a d c0 c->Cv p (ap d low a c Aw) T from fun a c c0 T h1 h2 h3=>S8 (m:=d) (low:=low) hd h1 h2 h3) (show ∀(a:Nat) (c:Nat->Int) v,ap d low a (Iv c a v) Aw=ap d low a c Aw from fun a c v=>NJ (Nat.le_refl _));obtain⟨T,aR⟩:=nA (ap d low (ml.length+1) (MJ ml) Aw);rw[aR]at bP;have bO:=Aa (show Cv p (ap d low (ml.length+1) (MJ ml) Aw) T by rw[aR];exact Cv.refl _ _);clear aR;clear aF aB aD bK bN bQ;go_wp2_with fail
 go_loopw [9,10,11] (fun i' _ _ wr=>∃(a:Nat) (c:Nat->Int),d<=a/\a<=ml.length+1/\i'= .int .i64 ((a:Int)-1)/\Hia (Bd wr w.heap.size 3 g (ml.length+1) cap (iv c))/\Hia (∀j,0<=c j/\c j<p)/\Hia (Cv p (ap d low a c Aw) T)/\Hia (∀j,a<=j->j<ml.length+1->c j=0)/\Ex w wr) (fun i' _ _ _=>(intOf i'+1).toNat)
 case atStart=>exact⟨ml.length+1,MJ ml,ac,ac,by go_num,bM,aY,bO,aJ,aZ⟩
 case round=>
  clear bM bO aJ aZ;obtain⟨a,c,bJ,ha2,rfl,aA,aP,hT,hz,hx⟩:=hrel;by_cases hai:d<a
  .obtain⟨b,rfl⟩:∃b,a=b+1:=⟨a-1,ac⟩;have eb:(((b+1:Nat)):Int)-1=b:=by omega
   rw[eb];have aO:d<=b:=ac;have hdb':(d:Int)<=(b:Int):=ac;have bI:b<ml.length+1:=ac;have aN:wr.cell? (g,b)=some (.int .i64 (c b)):=aA.o.cell bI;clear eb hai;obtain⟨wo,rfl⟩:∃wo:World,wo=wr:=⟨_,rfl⟩;have bL:=Aa (aU.o b c);go_wp2_with fail
   clear aN
   go_loopw [11] (fun j' wr=>∃(j:Nat) (c':Nat->Int),j<=d/\j'= .int .i64 j/\Hia (Bd wr w.heap.size 3 g (ml.length+1) cap (iv c'))/\Hia (∀j,0<=c' j/\c' j<p)/\Hia (RdE p d low b j c c')/\Hia (∀l,b<=l->c' l=c l)/\Ex w wr) (fun j' _=>d-(intOf j').toNat)
   case atStart=>exact⟨0,c,ac,rfl,aA,aP,bL,Aa (fun l _=>rfl),hx⟩
   case round=>
    clear aA hx bL;obtain⟨j,c',hj,rfl,aA,aE,bB,aL,hx⟩:=hrel;by_cases hlj:j<d
    .have hlw:=hx.cell (L4.o j hlj);have aG:=Aa (aV.o b j c' c aO hlj bB.o (aL.o b (Nat.le_refl _)));have bT:b-d+j<ml.length+1:=by omega
     have bS:b-d+j<b:=ac;have hvj:wr.cell? (g,b-d+j)=some (.int .i64 (c' (b-d+j))):=aA.o.cell bT;have bR:=aA.o.frz (b-d+j);have aH:=aL.o b (Nat.le_refl _);rw[aH]at aG;obtain⟨u1,u2⟩:=aP.o b;obtain⟨v1,v2⟩:=aE.o (b-d+j);obtain⟨q1,q2⟩:=cC.o j;obtain⟨D,hD⟩:=nA ((c' (b-d+j)+((p:Int)-c b)*low j)%(p:Int));have bV:0<=D/\D<p:=bz;rw[hD]at aG;have aT:=Aa (aA.o.set (b-d+j) (.int .i64 D));have aS:=Aa (aA.o.exSet (Nat.le_refl _) hx (b-d+j) (.int .i64 D));have aX:=Aa (show ∀l,0<=Ay c' (b-d+j) D l/\Ay c' (b-d+j) D l<p from fun l=>by
      unfold Ay;split
      .exact bV
      .exact aE.o l)
     have cD:=Aa (show ∀l,b<=l->Ay c' (b-d+j) D l=c l from fun l hl=>by rw[Ae _ _ ac];exact aL.o l hl);generalize low j=lj at *;generalize c b=cb at *;have e3:0<=((p:Int)-cb)*lj:=Int.mul_nonneg ac q1;have e4:((p:Int)-cb)*lj<=65536:=by
      have:=Int.mul_le_mul (show(p:Int)-cb<=256 by omega) (show lj<=256 by omega) q1 ac;omega
     have i1:IntKind.i64.wrap ((b:Int)-d)=(b:Int)-d:=IntWalk.i64_in _ ac;have i2:IntKind.i64.wrap ((b:Int)-d+j)=(b:Int)-d+j:=IntWalk.i64_in _ ac;have i3:IntKind.i64.wrap ((p:Int)-cb)=(p:Int)-cb:=IntWalk.i64_in _ ac;have i4:IntKind.i64.wrap (((p:Int)-cb)*lj)=((p:Int)-cb)*lj:=IntWalk.i64_in _ ac;have i5:IntKind.i64.wrap (c' (b-d+j)+((p:Int)-cb)*lj)=c' (b-d+j)+((p:Int)-cb)*lj:=IntWalk.i64_in _ ac;have i6:(c' (b-d+j)+((p:Int)-cb)*lj).tmod (p:Int)=D:=dl;have i7:((b:Int)-d+j).toNat=b-d+j:=ac;have i8:0<=(b:Int)-d+j:=ac;have i9:(b:Int)-d+j<(ml.length:Int)+1:=ac;have p0:¬p=0:=ac;clear hD bS aH;go_wp2_with fail
     go_still_tail 26,ah
     change wpList _ _ _ _ _ wr.drew
     go_wp2_with fail
     go_roundw
     case rel=>exact⟨j+1,Ay c' (b-d+j) D,ac,by go_num,Aa (by have:=aT.o.drew;rwa[CD]at this),aX,aG,cD,aS.o.drew⟩
     case measure=>simp[intOf];omega
    .obtain rfl:j=d:=by omega
     have bY:=Aa (aW.o b c' c _ aO hT.o bB.o);have bR:=aA.o.frz b;have hvb:=aA.o.cell bI;have aT:=Aa (aA.o.set b (.int .i64 0));have aS:=Aa (aA.o.exSet (Nat.le_refl _) hx b (.int .i64 0));have aX:=Aa (show ∀l,0<=Ay c' b 0 l/\Ay c' b 0 l<p from fun l=>by
      unfold Ay;split
      .omega
      .exact aE.o l)
     have bX:=Aa (show Cv p (ap j low b (Ay c' b 0) Aw) T from by
      have e:=bW.o b c' 0;show Cv p (ap j low b (Iv c' b 0) Aw) T
      rw[e];exact bY.o)
     have HZ:=Aa (show ∀l,b<=l->l<ml.length+1->Ay c' b 0 l=0 from fun l h1 h2=>by
      by_cases e:l=b
      .subst e;exact Ab _ _ _
      .rw[Ae _ _ e,aL.o l h1];exact hz.o l ac h2)
     go_wp2_with fail
     go_roundw
     case rel=>exact⟨b,Ay c' b 0,aO,ac,rfl,Aa (by have:=aT.o;rwa[CD]at this),aX,bX,HZ,aS.o⟩
     case measure=>simp[intOf]
  .obtain rfl:a=d:=by omega
   have aK:=Aa (bP.o c aP.o hT.o);go_wp2_with fail
   go_loopw [12] (fun i' wr=>∃i:Nat,i<=ml.length+1/\i'= .int .i64 i/\Hia (∀j,j<i->c j=0)/\Hia (Bd wr w.heap.size 3 g (ml.length+1) cap (iv c))/\Ex w wr) (fun i' _=>ml.length+1-(intOf i').toNat)
   case atStart=>exact⟨0,ac,rfl,Aa (fun j h=>ac),aA,hx⟩
   case round=>
    clear aA hx;obtain⟨i,hi,rfl,aI,aA,hx⟩:=hrel;by_cases hlt:i<ml.length+1
    .have bA:wr.cell? (g,i)=some (.int .i64 (c i)):=aA.o.cell hlt;by_cases h0:c i=0
     .have hvi':wr.cell? (g,i)=some (.int .i64 0):=by rw[bA,h0]
      have HA:=Aa (show ∀j,j<i+1->c j=0 from fun j hj=>by
       by_cases e:j=i
       .subst e;exact h0
       .exact aI.o j ac)
      clear bA h0;go_wp2_with fail
      go_roundw
      case rel=>exact⟨i+1,ac,by go_num,HA,aA,hx⟩
      case measure=>simp[intOf];omega
     .have hb:((c i)==0)=false:=by simpa using h0
      have bU:i<a:=by
       rcases Nat.lt_or_ge i a with e|e
       .exact e
       .exact absurd (hz.o i e hlt) h0
      have HF:=Aa (show QD p a low ml=false by
       rw[aK.o,List.all_eq_false];exact⟨i,List.mem_range.2 bU,by simpa using h0⟩)
      clear h0;generalize c i=ci at *;exact zc6
    .have HF:=Aa (show QD p a low ml=true by
      rw[aK.o,List.all_eq_true];intro j hj;have:=aI.o j (by have:=List.mem_range.1 hj;omega);simp[this])
     exact zc6
def Yv(p:Nat)(ml:List Int):Bool:=(List.range (ml.length/2)).all fun d=>(List.range (p^(d+1))).all fun v=> !QD p (d+1) (AK p (d+1) v) ml
theorem W8{p:Nat}{ml:List Int}{d v:Nat}(h1:2*(d+1)<=ml.length)(h2:v<p^(d+1))(h3:QD p (d+1) (AK p (d+1) v) ml=true):Yv p ml=false:=by
 unfold Yv;rw[List.all_eq_false];refine⟨d,List.mem_range.2 ac,?_⟩;rw[Bool.not_eq_true,List.all_eq_false];exact⟨v,List.mem_range.2 h2,by simp[h3]⟩
theorem TA{p:Nat}{ml:List Int}(h:∀d v,2*(d+1)<=ml.length->v<p^(d+1)->QD p (d+1) (AK p (d+1) v) ml=false):Yv p ml=true:=by
 unfold Yv;rw[List.all_eq_true];intro d hd;rw[List.all_eq_true];intro v hv;rw[h d v (by have:=List.mem_range.1 hd;omega) (List.mem_range.1 hv)];rfl
theorem J4(p:Nat)(ml:List Int)(mv:Value)(w:World)(hp:2<=p)(aO:p<=256)(aP:ml.length<=8)(hq:p^ml.length<=256)(aG:Aj w mv ml)(aM:∀x∈ml,0<=x/\x<p):
  Calls Tryz.prog 119 #[mv,p] w fun r w'=>r= .returned (.bool (Yv p ml))/\Ex w w':=by
 obtain⟨aV,aW,aU,aI,aN,aT⟩:=To aG (fun d v lv w' h1 h2 h3 h4=>QI p d (AK p d v) ml lv mv w' hp aO h1 h2 aP h3 (DF ac d v) h4 aM) (fun d v h1 h2 h3=>W8 (p:=p) (ml:=ml) (d:=d) (v:=v) h1 h2 h3) (fun h=>TA (p:=p) (ml:=ml) h) (show ∀d,d<=ml.length->p^d<=256 from fun d hd=>Nat.le_trans (Nat.pow_le_pow_right ac hd) hq) (fun d=>Nat.pow_succ p d);obtain⟨ma,mc,rfl,m1,m2,m3⟩:=aG.open;unfold maxLen at m2;clear aG aM m3 hq;go_enter Tryz.func119,Tryz.ntmps119
 go_wp2_with fail
 go_loopw [5,6,7] (fun c' d' _ wr=>∃d:Nat,2*d<=ml.length/\d'= .int .i64 ((d:Int)+1)/\c'= .int .i64 ((p^d:Nat):Int)/\Hia (∀e v,e<d->v<p^(e+1)->QD p (e+1) (AK p (e+1) v) ml=false)/\Ex w wr) (fun _ d' _ _=>10-(intOf d').toNat)
 case atStart=>exact⟨0,ac,rfl,ag,Aa (fun e v h=>ac),Ex.refl _⟩
 case round=>
  obtain⟨d,hd,rfl,rfl,aD,hx⟩:=hrel;have hpd:=aN.o d ac;have hpp:1<=p^d:=Nat.pow_pos ac;have aK:=Aa (aT.o d);by_cases hlt:2*(d+1)<=ml.length
  .have aC:=aN.o (d+1) ac;rw[aK.o]at aC;have aA:((p^d:Nat):Int)*(p:Int)=((p^d*p:Nat):Int):=by simp
   have hm1:0<=((p^d:Nat):Int)*(p:Int):=by rw[aA];omega
   have hm2:((p^d:Nat):Int)*(p:Int)<=256:=by rw[aA];omega
   obtain⟨n,hn⟩:=nA (p^d*p);rw[hn]at aA aC;have HC:=Aa aA;have aQ:2*((d:Int)+1)<=(ml.length:Int):=ac;have aJ:=Aa (show p^(d+1)=n by rw[aK.o,hn]);clear aA hn aK;generalize p^d=pd at *;obtain⟨wo,rfl⟩:∃wo:World,wo=wr:=⟨_,rfl⟩;go_wp2_with fail
   rw[HC.o]
   go_loopw [7] (fun v' wr=>∃v:Nat,v<=n/\v'= .int .i64 v/\Hia (∀u,u<v->QD p (d+1) (AK p (d+1) u) ml=false)/\Ex w wr) (fun v' _=>n-(intOf v').toNat)
   case atStart=>exact⟨0,ac,rfl,Aa (fun u h=>ac),hx⟩
   case round=>
    clear hx;obtain⟨v,hv,rfl,aE,hx⟩:=hrel;by_cases hlv:v<n
    .have aS:=Aa (fun w'=>by
      have h:=JT v p (d+1) w' ac ac ac ac;rw[show((d+1:Nat):Int)=(d:Int)+1 by omega]at h;exact h)
     have aH:(v:Int)<(n:Int):=ac;go_wp2_with fail
     (with_reducible refine(aS.o _).mono ?_)
     rintro e w2⟨lv,rfl,⟨g,rfl,hg1,aR⟩,aF⟩;go_wp2_with fail
     refine(aW.o (d+1) v _ _ ac ac aR.isl (aV.o.ex (hx.trans aF))).mono ?_;rintro e w3⟨rfl,aL⟩;by_cases hdv:QD p (d+1) (AK p (d+1) v) ml=true
     .have HF:=Aa (aU.o d v hlt (by rw[aJ.o];exact hlv) hdv);rw[hdv];clear hdv;go_wp2_with fail
      go_ret;exact⟨Aq HF.o.symm,(hx.trans aF).trans aL⟩
     .have aB:QD p (d+1) (AK p (d+1) v) ml=false:=by simpa using hdv
      rw[aB];have HA:=Aa (show ∀u,u<v+1->QD p (d+1) (AK p (d+1) u) ml=false from fun u hu=>by
       by_cases e:u=v
       .subst e;exact aB
       .exact aE.o u ac)
      clear hdv aB;go_wp2_with fail
      go_roundw
      case rel=>exact⟨v+1,ac,by go_num,HA,(hx.trans aF).trans aL⟩
      case measure=>simp[intOf];omega
    .have aH:(n:Int)<=(v:Int):=by omega
     have HA:=Aa (show ∀e u,e<d+1->u<p^(e+1)->QD p (e+1) (AK p (e+1) u) ml=false from fun e u he hu=>by
      by_cases h:e=d
      .subst h;exact aE.o u (by rw[aJ.o]at hu;omega)
      .exact aD.o e u ac hu)
     go_wp2_with fail
     go_roundw
     case rel=>exact⟨d+1,hlt,by go_num,by rw[aJ.o],HA,hx⟩
     case measure=>simp[intOf];omega
  .have HF:=Aa (aI.o fun e v h1 h2=>aD.o e v ac h2);have aQ:¬2*((d:Int)+1)<=(ml.length:Int):=by omega
   generalize p^d=pd at *;exact zc6
def B6(p m:Int)(ml:List Int):Int:=if (KT p m ml&&(decide (m=1)||Yv p.toNat ml))=true then 0 else 1
theorem Uc{p m:Int}{ml:List Int}(h:KT p m ml=false):B6 p m ml=1:=by unfold B6;rw[h];rfl
theorem za8{P:Prop}(h:P:=by
 go_enter Tryz.func59,Tryz.ntmps59
 have d0:=D0.o;have d1:=D1.o;have d2:=D2.o;go_wp2_with fail
 generalize w.alloc (.cells #[pn,mn,.slice ma ml.length mc] 24)=w1 at *;clear D0 D1 D2;refine(aH.o _).mono ?_;rintro e w2⟨rfl,aA⟩;have r0:=aA.cell d0;have r1:=aA.cell d1;have r2:=aA.cell d2;go_wp2_with fail
 refine(aJ.o _).mono ?_;rintro e w3⟨rfl,rfl⟩;go_wp2_with fail
 go_ret;exact⟨Af HC.o.symm,e0.trans aA⟩):P:=h
theorem zbV{P:Prop}(h:P:=by
 go_wp2_with fail
 go_quiet (fail)
 go_wp2_with fail
 go_ret;exact⟨Af HF.o.symm,e0.trans (hx.drewN _)⟩):P:=h
theorem zcJ{P:Prop}(h:P:=by
 go_wp2_with fail
 go_ret;exact⟨Af HC.o.symm,(e0.trans hx).trans aS⟩):P:=h
theorem Ib(p m:Int)(ml:List Int)(mv:Value)(w:World)(aN:Aj w mv ml):
  Calls Tryz.prog 59 #[.agg #[p,m,mv]] w fun r w'=>r= .returned (.int .i64 (B6 p m ml))/\Ex w w':=by
 obtain⟨d0,d1,d2,e0,_⟩:=AD w p m mv;have aR:=Aa (show KT p m ml=(decide (CG p m≠0)&&(Jl p.toNat&&if m=1 then ml.length==0 else ml.length==m.toNat&&ml.all fun x=>decide (0<=x)&&decide (x<p))) from rfl);have aZ:=Aa aN;obtain⟨ma,mc,rfl,m1,m2,m3⟩:=(aN.ex e0).open;have M3:=Aa m3;have DX:=fun w=>DR p m (.slice ma ml.length mc) w;have aC:=Aa (fun h=>Uc (p:=p) (m:=m) (ml:=ml) h);unfold maxLen at m2;clear aN m3;have D0:=Aa d0;have D1:=Aa d1;have D2:=Aa d2;clear d0 d1 d2;by_cases ho:CG p m=0
 .have HC:=Aa (aC.o (by rw[aR.o,ho];rfl));rw[ho]at DX;have aH:=Aa DX;clear ho DX;go_enter Tryz.func59,Tryz.ntmps59
  have d0:=D0.o;have d1:=D1.o;have d2:=D2.o;go_wp2_with fail
  generalize w.alloc (.cells #[p,m,.slice ma ml.length mc] 24)=w1 at *;clear D0 D1 D2;refine(aH.o _).mono ?_;rintro e w2⟨rfl,aA⟩;have r0:=aA.cell d0;have r1:=aA.cell d1;have r2:=aA.cell d2;go_wp2_with fail
  go_ret;exact⟨Af HC.o.symm,e0.trans aA⟩
 .obtain⟨pn,mn,rfl,rfl,p2,q1,q8,qq,aT⟩:=Oj ho;have hpw:1<=pn^mn:=Nat.pow_pos ac;have aE:pn<=256:=by
   exact zcc
  have hb0:(((pn^mn:Nat):Int)==0)=false:=by rw[beq_eq_false_iff_ne];omega
  have aB:=Aa (show KT pn mn ml=(Jl pn&&if (mn:Int)=1 then ml.length==0 else ml.length==mn&&ml.all fun x=>decide (0<=x)&&decide (x<pn)) by
   rw[aR.o,decide_eq_true ho];simp)
  have aI:=fun w=>Rp pn w p2 aE;have HQQ:=Aa qq;have aY:=Aa (show ∀n,n=mn->pn^n<=256 from fun n h=>by rw[h];exact qq);rw[aT]at DX;have aH:=Aa DX;clear DX;generalize pn^mn=qn at *;clear ho aT aR;by_cases hpr:Jl pn=true
  .rw[hpr]at aB aI;have aJ:=Aa aI;clear aI hpr;by_cases hm1:mn=1
   .have aO:((mn:Int)==1)=true:=by simp;omega
    by_cases hl:ml.length=0
    .have HC:=Aa (show B6 pn mn ml=0 by
      unfold B6;rw[aB.o,if_pos (show(mn:Int)=1 by omega),hl,decide_eq_true (show(mn:Int)=1 by omega)];rfl)
     have aX:((ml.length:Int) !=0)=false:=by rw[bne_eq_false_iff_eq];omega
     have aQ:((ml.length:Int)==0)=true:=by rw[beq_iff_eq];omega
     clear hm1 aB hl;exact za8
    .have HC:=Aa (aC.o (by rw[aB.o,if_pos (show(mn:Int)=1 by omega),Bool.true_and,beq_eq_false_iff_ne];exact hl));have aX:((ml.length:Int) !=0)=true:=by rw[bne_iff_ne];omega
     have aQ:((ml.length:Int)==0)=false:=by rw[beq_eq_false_iff_ne];omega
     clear hm1 aB hl;exact za8
   .have aO:((mn:Int)==1)=false:=by simp;omega
    have HR:=Aa (show KT pn mn ml=(ml.length==mn&&ml.all fun x=>decide (0<=x)&&decide (x<pn)) by rw[aB.o,if_neg ac,Bool.true_and]);have bA:=Aa hm1;clear hm1 aB;by_cases hlen:ml.length=mn
    .have aW:((ml.length:Int)==(mn:Int))=true:=by rw[beq_iff_eq];omega
     have aV:((ml.length:Int) !=(mn:Int))=false:=by rw[bne_eq_false_iff_eq];omega
     have aU:=Aa (show KT pn mn ml=ml.all fun x=>decide (0<=x)&&decide (x<pn) by rw[HR.o,show(ml.length==mn)=true by simp[hlen],Bool.true_and]);have aD:=Aa hlen;clear hlen HR;go_enter Tryz.func59,Tryz.ntmps59
     have d0:=D0.o;have d1:=D1.o;have d2:=D2.o;go_wp2_with fail
     generalize w.alloc (.cells #[pn,mn,.slice ma ml.length mc] 24)=w1 at *;clear D0 D1 D2;refine(aH.o _).mono ?_;rintro e w2⟨rfl,aA⟩;have r0:=aA.cell d0;have r1:=aA.cell d1;have r2:=aA.cell d2;go_wp2_with fail
     refine(aJ.o _).mono ?_;rintro e w3⟨rfl,rfl⟩;go_wp2_with fail
     clear r0 r1 r2
     go_loopw [3] (fun j' wr=>∃j:Nat,j<=ml.length/\j'= .int .i64 j/\Hia (∀i y,i<j->ml[i]?=some y->0<=y/\y<pn)/\Ex w1 wr) (fun j' _=>ml.length-(intOf j').toNat)
     case atStart=>exact⟨0,ac,rfl,Aa (fun i y h=>ac),aA⟩
     case round=>
      clear aA;obtain⟨j,hj,rfl,aM,hx⟩:=hrel;have r0:=hx.cell d0;have r1:=hx.cell d1;have r2:=hx.cell d2;by_cases hlt:j<ml.length
      .obtain⟨y,hy⟩:∃y,ml[j]?=some y:=⟨_,List.getElem?_eq_getElem hlt⟩;obtain⟨b,o,rfl,hc⟩:=M3.o ac;have c1:=hx.cell (hc j y hy);have aP:(j:Int)<(mn:Int):=by have:=aD.o;omega
       by_cases hy0:0<=y/\y<pn
       .have HA:=Aa (show ∀i z,i<j+1->ml[i]?=some z->0<=z/\z<pn from fun i z hi hz=>by
         by_cases e:i=j
         .subst e;rw[hy]at hz;injection hz with hz;subst hz;exact hy0
         .exact aM.o i z ac hz)
        obtain⟨y0,y1⟩:=hy0;have b1:decide (y<0)=false:=by simpa using y0
        have b2:decide ((pn:Int)<=y)=false:=by simpa using y1
        clear hc hy;go_wp2_with fail
        go_quiet (fail)
        go_wp2_with fail
        go_roundw
        case rel=>exact⟨j+1,ac,by go_num,HA,hx.drewN _⟩
        case measure=>simp[intOf];omega
       .have HF:=Aa (aC.o (by
         rw[aU.o,List.all_eq_false];refine⟨y,List.mem_of_getElem? hy,?_⟩;simpa using hy0))
        have aK:y<0∨(0<=y/\(pn:Int)<=y):=ac;clear hc hy hy0;rcases aK with aK|⟨aK,hy2⟩
        .have b1:decide (y<0)=true:=by simpa using aK
         exact zbV
        .have b1:decide (y<0)=false:=by simpa using aK
         have b2:decide ((pn:Int)<=y)=true:=by simpa using hy2
         exact zbV
      .obtain rfl:j=ml.length:=by omega
       have aG:∀y∈ml,0<=y/\y<pn:=fun y hy=>by
        obtain⟨i,hi,e⟩:=List.getElem_of_mem hy;exact aM.o i y hi au
       have HT:=Aa (show B6 pn mn ml=if Yv pn ml=true then 0 else 1 by
        unfold B6;rw[aU.o,show(ml.all fun x=>decide (0<=x)&&decide (x<(pn:Int)))=true by
         rw[List.all_eq_true];intro y hy;simp[aG y hy],decide_eq_false (show ¬(mn:Int)=1 by have:=bA.o;omega)]
        simp)
       have bB:=Aa (fun (w':World) (h:Aj w' (.slice ma ml.length mc) ml)=>J4 pn ml (.slice ma ml.length mc) w' p2 aE (by have:=aD.o;omega) (aY.o _ aD.o) h aG);have aP:¬((ml.length:Int)<(mn:Int)):=by have:=aD.o;omega
       clear aG;go_wp2_with fail
       refine(bB.o _ (aZ.o.ex (e0.trans hx))).mono ?_;rintro e w4⟨rfl,aS⟩;by_cases hir:Yv pn ml=true
       .have HC:=Aa (show B6 pn mn ml=0 by rw[HT.o,if_pos hir]);rw[hir];clear hir;exact zcJ
       .have HC:=Aa (show B6 pn mn ml=1 by rw[HT.o,if_neg hir]);have aL:Yv pn ml=false:=by simpa using hir
        rw[aL];clear hir aL;exact zcJ
    .have aW:((ml.length:Int)==(mn:Int))=false:=by rw[beq_eq_false_iff_ne];omega
     have aV:((ml.length:Int) !=(mn:Int))=true:=by rw[bne_iff_ne];omega
     have HC:=Aa (aC.o (by rw[HR.o,show(ml.length==mn)=false by simp[hlen],Bool.false_and]));clear hlen HR;exact za8
  .have aF:Jl pn=false:=by simpa using hpr
   have HC:=Aa (aC.o (by rw[aB.o,aF];rfl));rw[aF]at aI;have aJ:=Aa aI;clear aI hpr aF aB;exact za8
end Go.Proofs.YtehieobniamagaaGreat
