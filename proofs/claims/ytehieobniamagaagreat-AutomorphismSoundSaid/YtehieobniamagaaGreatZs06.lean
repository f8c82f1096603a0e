/- The values of a long region whose operations fill one slot after the other. -/
import Derived.RegionTactic
import Derived.BigRegion
import Derived.Test.YtehieobniamagaaGreatZs05
namespace Go.Proofs.YtehieobniamagaaGreat
open Go.RowKit
set_option linter.all false
set_option maxRecDepth 100000
set_option maxHeartbeats 4000000
def OL:List Oper->Nat->Bool
 | [],_=>true
 | o :: l,s=>(o.dst==some s)&&OL l (s+1)
theorem SS:∀(A:List Value) (x v:Value) (C:List Value),(A++x :: C).set A.length v=A++v :: C
 | [],x,v,C=>rfl
 | a :: A,x,v,C=>by
  show a :: (A++x :: C).set A.length v=_
  rw[SS A x v C];rfl
def Ph(V:Nat->Value):Nat->Nat->List Value
 | _,0=> []
 | k,n+1=>V k :: Ph V (k+1) n
theorem PP:∀(l:List Oper) (V:Nat->Value) (k:Nat) (A B C:List Value) (D:List Deferred),B.length=l.length->OL l A.length=true->Ci l V k ⟨(A++(B++C)).toArray,D⟩=⟨(A++(Ph V k l.length++C)).toArray,D⟩
 | [],V,k,A,B,C,D,hB,_=>by
  have:B= []:=List.length_eq_zero_iff.1 hB;subst this;rfl
 | o :: l,V,k,A, [],C,D,hB,_=>by simp at hB
 | o :: l,V,k,A,x :: B,C,D,hB,h=>by
  unfold OL at h;rw[Bool.and_eq_true,beq_iff_eq]at h;have e:Act.put ⟨(A++(x :: B++C)).toArray,D⟩ o.dst (V k)=⟨((A ++ [V k])++(B++C)).toArray,D⟩:=by
   rw[h.1];show Act.mk ((A++(x :: B++C)).toArray.setIfInBounds A.length (V k)) D=_
   congr 1
   rw[List.setIfInBounds_toArray];have:=SS A x (V k) (B++C);rw[show x :: B++C=x :: (B++C) from rfl,this];simp
  show Ci l V (k+1) (Act.put ⟨(A++(x :: B++C)).toArray,D⟩ o.dst (V k))=_
  rw[e,PP l V (k+1) (A ++ [V k]) B C D (by simpa using hB) (by rw[List.length_append];exact h.2)];show _=Act.mk (A++(V k :: Ph V (k+1) l.length++C)).toArray D
  simp
theorem zcD{P:Prop}(h:P:=by
 rw[List.getD_eq_getElem?_getD,List.getElem?_append_right (Nat.le_refl _)];simp):P:=h
theorem Kt:∀(vals aA:List Value),Ph (fun k=>(aA++vals).getD k undef) aA.length vals.length=vals
 | [],aA=>rfl
 | v :: vals,aA=>by
  show(aA++v :: vals).getD aA.length undef :: Ph (fun k=>(aA++v :: vals).getD k undef) (aA.length+1) vals.length=v :: vals
  have h1:(aA++v :: vals).getD aA.length undef=v:=by
   exact zcD
  have h2:=Kt vals (aA ++ [v]);rw[List.length_append,List.append_assoc]at h2;rw[h1];exact congrArg (v :: ·) h2
theorem bn{P:Prop}(h:P:=by rw[List.length_take];omega):P:=h
theorem N0{l:List Oper}{vals a:List Value}{D:List Deferred}{P:Act}(hP:Ci l (fun k=>vals.getD k undef) 0 ⟨a.toArray,D⟩=P)(s t:Nat)(h:(OL l s&&(vals.length==l.length&&(s+l.length==t&&decide (t<=a.length))))=true):P=⟨(a.take s++(vals++a.drop t)).toArray,D⟩:=by
 simp only[Bool.and_eq_true,beq_iff_eq,decide_eq_true_eq]at h;obtain⟨h1,h2,h3,h4⟩:=h;subst hP;have e:a=a.take s++((a.drop s).take l.length++a.drop t):=by
  rw[<-h3,<-List.drop_drop,List.take_append_drop,List.take_append_drop]
 have h5:(a.take s).length=s:=bn;have h6:((a.drop s).take l.length).length=l.length:=by rw[List.length_take,List.length_drop];omega
 have h7:=PP l (fun k=>vals.getD k undef) 0 (a.take s) ((a.drop s).take l.length) (a.drop t) D h6 (by rw[h5];exact h1);rw[<-e]at h7;rw[h7,<-h2];have:=Kt vals [];simp only[List.nil_append,List.length_nil]at this;rw[this]
def Wu:List Oper->Nat->Nat->Option Nat
 | [],_,_=>none
 | o :: l,k,t=>if (o.dst==some t)=true then some k else Wu l (k+1) t
theorem IA:∀(l:List Oper) (k t j:Nat),Wu l k t=some j->∃o,k<=j/\l[j-k]?=some o/\o.dst=some t
 | [],k,t,j,h=>by cases h
 | o :: l,k,t,j,h=>by
  unfold Wu at h;split at h
  .rename_i h1;injection h with h;subst h;exact⟨o,Nat.le_refl _,by simp,by simpa using h1⟩
  .obtain⟨o',h2,h3,h4⟩:=IA l (k+1) t j h;refine⟨o',ac,?_,h4⟩;rw[show j-k=(j-(k+1))+1 from ac];exact h3
theorem IB:∀(l:List Oper) (k t:Nat),Wu l k t=none->(l.all fun o=>o.dst !=some t)=true
 | [],k,t,h=>rfl
 | o :: l,k,t,h=>by
  unfold Wu at h;split at h
  .cases h
  .rename_i h1;rw[List.all_cons,IB l (k+1) t h,Bool.and_true];simpa using h1
def lkS(l:List Oper)(pv:Nat->Value)(a0:Act)(o:Oper)(t:Nat):Option Value:=match Wu l 0 t with
 | some j=>if (o.after.toList.any fun e=>e.on==j&&Region.binds .any e)=true then some (pv j) else none
 | none=>a0.tmps[t]?
theorem Bu.go{P:Program}{Q:Exit->Act->World->Prop}{a0:Act}{l:List Oper}{pv:Nat->Value}{w:World}{i:Nat}{o:Oper}(hw:Ib l pv o=true)
  (h:∀(a:Act) (w':World),(∀t v,lkS l pv a0 o t=some v->a.tmps[t]?=some v)->Ex w w'->∀K:Act->World->Prop,(∀w'',Ex w' w''->K (a.put o.dst (pv i)) w'')->o.wp P a w' K Q):Bu P Q l a0 pv w i o:=
 Bu.on hw fun L a w' aB aA hd hx K hK=>h a w' (fun t v hv=>by
  unfold lkS at hv
  cases hj:Wu l 0 t with
  | none=>
   rw[hj]at hv;rw[aA t (IB l 0 t hj)];exact hv
  | some j=>
   rw[hj]at hv;obtain⟨o',_,h2,h3⟩:=IA l 0 t j hj;simp only at hv;split at hv
   .rename_i h4;injection hv with hv;obtain⟨e,he,h5⟩:=List.any_eq_true.1 h4;have he:=Array.mem_toList_iff.1 he;rw[Bool.and_eq_true,beq_iff_eq]at h5;have hL:=hd e he h5.2;rw[h5.1]at hL;rw[<-hv];exact aB j t o' hL h2 h3
   .cases hv) hx K hK
theorem Bu.gd{P:Program}{Q:Exit->Act->World->Prop}{a0:Act}{l:List Oper}{pv:Nat->Value}{w:World}{i:Nat}{o:Oper}(c:Bool)
  (h:c=false->∀(a:Act) (w':World),(∀t v,lkS l pv a0 o t=some v->a.tmps[t]?=some v)->Ex w w'->∀K:Act->World->Prop,(∀w'',Ex w' w''->K (a.put o.dst (pv i)) w'')->o.wp P a w' K Q)
  (h1:c=true->Ib l pv o=false/\pv i=undef:=by rintro rfl;exact⟨rfl,rfl⟩) (h2:c=false->Ib l pv o=true:=by rintro rfl;rfl):Bu P Q l a0 pv w i o:=by
 cases c with
 | true=>exact Bu.off (h1 rfl).1 (h1 rfl).2
 | false=>exact Bu.go (h2 rfl) (h rfl)
theorem JS{A:Sort _}(x:A):∃y,Hia (x=y):=⟨x,rfl⟩
theorem or_no{x y:Bool}(h:Hia ((x||y)=false)):x=false/\y=false:=by
 have h:=h.o;cases x <;> cases y <;> simp_all
theorem zaH{P:Prop}(h:P:=by
 obtain rfl:i=n:=by omega
 have HF:=Aa (BV aA.o);go_wp2_with fail
 go_ret;exact⟨Af HF.o.symm,aB.o⟩):P:=h
theorem zb2{P:Prop}(h:P:=by
 go_roundg (n-(i+1))
 case measure=>omega
 case rel=>exact⟨i+1,by omega,by omega,by go_num,HX,HA⟩):P:=h
theorem zdo{P:Prop}(h:P:=by
 go_ret;exact⟨Af HF.o.symm,HX.o⟩):P:=h
theorem a8{P:Prop}(h:P:=by rw[HL.o];exact hlt):P:=h
theorem MH(w:World)(p0:Value)(v:Value)(n:Nat)(us:List Value)(hv:Sl w v n 1 us)(pr:Nat->Bool)
  (hp:∀(w1:World) (i:Nat) (u:Value),Ex w w1->us[i]?=some u->Calls Tryz.prog 197 #[u,p0] w1 fun e w'=>e= .returned (.bool (pr i))/\Ex w1 w'):
  Calls Tryz.prog 169 #[v,.func (.func 197) #[] #[p0]] w fun r w'=>r= .returned (.int .i64 (Cv pr n))/\Ex w w':=by
 obtain⟨hl,a,cap,rfl,s1,s2,s3⟩:=hv;rw[Nat.mul_one]at hl;have S3:=Aa s3;have HP:=Aa hp;have HL:=Aa hl;unfold maxLen at s2;clear s3 hp hl;go_enter Tryz.func169,Tryz.ntmps169
 go_wp2_with fail
 go_loopg [5,8] n (fun gg _ i' wr=>∃i:Nat,i<=n/\n-i<=gg/\i'= .int .i64 i/\Hia (Ex w wr)/\Hia (∀j,j<i->pr j=false))
 case atStart=>exact⟨0,ac,ac,rfl,Aa (Ex.refl _),Aa (fun j hj=>ac)⟩
 case round=>
  obtain⟨i,hi,hg,rfl,aB,aA⟩:=hrel;by_cases hlt:i<n
  .obtain⟨u,hu⟩:∃u,us[i]?=some u:=⟨_,List.getElem?_eq_getElem a8⟩;obtain⟨bb,o,rfl,hc⟩:=S3.o ac;have c1:=aB.o.cell (hc i u hu);have HC:=Aa (HP.o wr i u aB.o hu);have hlt':(i:Int)<(n:Int):=by omega
   clear hc hu
   cases hb:pr i with
   | true=>
    rw[hb]at HC;have HF:=Aa (Cy hlt hb aA.o);clear hb;go_wp2_with (go_at_call 197;refine HC.o.mono ?_;rintro e w'⟨rfl,hx⟩;have HX:=Aa (aB.o.trans hx);clear hx)
    exact zdo
   | false=>
    rw[hb]at HC;have HA:=Aa (show ∀j,j<i+1->pr j=false from fun j hj=>by
     by_cases e:j=i
     .subst e;exact hb
     .exact aA.o j ac)
    clear hb;go_wp2_with (go_at_call 197;refine HC.o.mono ?_;rintro e w'⟨rfl,hx⟩;have HX:=Aa (aB.o.trans hx);clear hx)
    exact zb2
  .exact zaH
theorem zbj{P:Prop}(h:P:=by
 have HB:=Aa (Ee pr n);obtain⟨z,hz⟩:=nA (Cv pr n);rw[hz]at HC HB;clear hz hp hv;go_enter Tryz.func116,Tryz.ntmps116
 go_wp2_with (go_at_call 169;refine HC.o.mono ?_;rintro e w'⟨rfl,hx⟩;have HX:=Aa hx;clear hx)
 go_ret;exact⟨Ap HB.o.symm,HX.o⟩):P:=h
theorem JE(w:World)(p0:Value)(v:Value)(n:Nat)(us:List Value)(hv:Sl w v n 1 us)(pr:Nat->Bool)
  (hp:∀(w1:World) (i:Nat) (u:Value),Ex w w1->us[i]?=some u->Calls Tryz.prog 197 #[u,p0] w1 fun e w'=>e= .returned (.bool (pr i))/\Ex w1 w'):
  Calls Tryz.prog 116 #[v,.func (.func 197) #[] #[p0]] w fun r w'=>r= .returned (.bool ((List.range n).any pr))/\Ex w w':=by
 have HC:=Aa (MH w p0 v n us hv pr hp);exact zbj
theorem MI(w:World)(p0:Value)(v:Value)(n:Nat)(us:List Value)(hv:Sl w v n 1 us)(pr:Nat->Bool)
  (hp:∀(w1:World) (i:Nat) (u:Value),Ex w w1->us[i]?=some u->Calls Tryz.prog 198 #[u,p0] w1 fun e w'=>e= .returned (.bool (pr i))/\Ex w1 w'):
  Calls Tryz.prog 169 #[v,.func (.func 198) #[] #[p0]] w fun r w'=>r= .returned (.int .i64 (Cv pr n))/\Ex w w':=by
 obtain⟨hl,a,cap,rfl,s1,s2,s3⟩:=hv;rw[Nat.mul_one]at hl;have S3:=Aa s3;have HP:=Aa hp;have HL:=Aa hl;unfold maxLen at s2;clear s3 hp hl;go_enter Tryz.func169,Tryz.ntmps169
 go_wp2_with fail
 go_loopg [5,8] n (fun gg _ i' wr=>∃i:Nat,i<=n/\n-i<=gg/\i'= .int .i64 i/\Hia (Ex w wr)/\Hia (∀j,j<i->pr j=false))
 case atStart=>exact⟨0,ac,ac,rfl,Aa (Ex.refl _),Aa (fun j hj=>ac)⟩
 case round=>
  obtain⟨i,hi,hg,rfl,aB,aA⟩:=hrel;by_cases hlt:i<n
  .obtain⟨u,hu⟩:∃u,us[i]?=some u:=⟨_,List.getElem?_eq_getElem a8⟩;obtain⟨bb,o,rfl,hc⟩:=S3.o ac;have c1:=aB.o.cell (hc i u hu);have HC:=Aa (HP.o wr i u aB.o hu);have hlt':(i:Int)<(n:Int):=by omega
   clear hc hu
   cases hb:pr i with
   | true=>
    rw[hb]at HC;have HF:=Aa (Cy hlt hb aA.o);clear hb;go_wp2_with (go_at_call 198;refine HC.o.mono ?_;rintro e w'⟨rfl,hx⟩;have HX:=Aa (aB.o.trans hx);clear hx)
    exact zdo
   | false=>
    rw[hb]at HC;have HA:=Aa (show ∀j,j<i+1->pr j=false from fun j hj=>by
     by_cases e:j=i
     .subst e;exact hb
     .exact aA.o j ac)
    clear hb;go_wp2_with (go_at_call 198;refine HC.o.mono ?_;rintro e w'⟨rfl,hx⟩;have HX:=Aa (aB.o.trans hx);clear hx)
    exact zb2
  .exact zaH
theorem JF(w:World)(p0:Value)(v:Value)(n:Nat)(us:List Value)(hv:Sl w v n 1 us)(pr:Nat->Bool)
  (hp:∀(w1:World) (i:Nat) (u:Value),Ex w w1->us[i]?=some u->Calls Tryz.prog 198 #[u,p0] w1 fun e w'=>e= .returned (.bool (pr i))/\Ex w1 w'):
  Calls Tryz.prog 116 #[v,.func (.func 198) #[] #[p0]] w fun r w'=>r= .returned (.bool ((List.range n).any pr))/\Ex w w':=by
 have HC:=Aa (MI w p0 v n us hv pr hp);exact zbj
theorem MA(w:World)(p0:Value)(v:Value)(n:Nat)(us:List Value)(hv:Sl w v n 1 us)(pr:Nat->Bool)
  (hp:∀(w1:World) (i:Nat) (u:Value),Ex w w1->us[i]?=some u->Calls Tryz.prog 223 #[u,p0] w1 fun e w'=>e= .returned (.bool (pr i))/\Ex w1 w'):
  Calls Tryz.prog 169 #[v,.func (.func 223) #[] #[p0]] w fun r w'=>r= .returned (.int .i64 (Cv pr n))/\Ex w w':=by
 obtain⟨hl,a,cap,rfl,s1,s2,s3⟩:=hv;rw[Nat.mul_one]at hl;have S3:=Aa s3;have HP:=Aa hp;have HL:=Aa hl;unfold maxLen at s2;clear s3 hp hl;go_enter Tryz.func169,Tryz.ntmps169
 go_wp2_with fail
 go_loopg [5,8] n (fun gg _ i' wr=>∃i:Nat,i<=n/\n-i<=gg/\i'= .int .i64 i/\Hia (Ex w wr)/\Hia (∀j,j<i->pr j=false))
 case atStart=>exact⟨0,ac,ac,rfl,Aa (Ex.refl _),Aa (fun j hj=>ac)⟩
 case round=>
  obtain⟨i,hi,hg,rfl,aB,aA⟩:=hrel;by_cases hlt:i<n
  .obtain⟨u,hu⟩:∃u,us[i]?=some u:=⟨_,List.getElem?_eq_getElem a8⟩;obtain⟨bb,o,rfl,hc⟩:=S3.o ac;have c1:=aB.o.cell (hc i u hu);have HC:=Aa (HP.o wr i u aB.o hu);have hlt':(i:Int)<(n:Int):=by omega
   clear hc hu
   cases hb:pr i with
   | true=>
    rw[hb]at HC;have HF:=Aa (Cy hlt hb aA.o);clear hb;go_wp2_with (go_at_call 223;refine HC.o.mono ?_;rintro e w'⟨rfl,hx⟩;have HX:=Aa (aB.o.trans hx);clear hx)
    exact zdo
   | false=>
    rw[hb]at HC;have HA:=Aa (show ∀j,j<i+1->pr j=false from fun j hj=>by
     by_cases e:j=i
     .subst e;exact hb
     .exact aA.o j ac)
    clear hb;go_wp2_with (go_at_call 223;refine HC.o.mono ?_;rintro e w'⟨rfl,hx⟩;have HX:=Aa (aB.o.trans hx);clear hx)
    exact zb2
  .exact zaH
theorem JB(w:World)(p0:Value)(v:Value)(n:Nat)(us:List Value)(hv:Sl w v n 1 us)(pr:Nat->Bool)
  (hp:∀(w1:World) (i:Nat) (u:Value),Ex w w1->us[i]?=some u->Calls Tryz.prog 223 #[u,p0] w1 fun e w'=>e= .returned (.bool (pr i))/\Ex w1 w'):
  Calls Tryz.prog 116 #[v,.func (.func 223) #[] #[p0]] w fun r w'=>r= .returned (.bool ((List.range n).any pr))/\Ex w w':=by
 have HC:=Aa (MA w p0 v n us hv pr hp);exact zbj
theorem Hn(w:World)(v:Value)(n:Nat)(us:List Value)(hv:Sl w v n 1 us)(pr:Nat->Bool)
  (hp:∀(w1:World) (i:Nat) (u:Value),Ex w w1->us[i]?=some u->Calls Tryz.prog 269 #[u] w1 fun e w'=>e= .returned (.bool (pr i))/\Ex w1 w'):
  Calls Tryz.prog 169 #[v,.func (.func 269) #[] #[]] w fun r w'=>r= .returned (.int .i64 (Cv pr n))/\Ex w w':=by
 obtain⟨hl,a,cap,rfl,s1,s2,s3⟩:=hv;rw[Nat.mul_one]at hl;have S3:=Aa s3;have HP:=Aa hp;have HL:=Aa hl;unfold maxLen at s2;clear s3 hp hl;go_enter Tryz.func169,Tryz.ntmps169
 go_wp2_with fail
 go_loopg [5,8] n (fun gg _ i' wr=>∃i:Nat,i<=n/\n-i<=gg/\i'= .int .i64 i/\Hia (Ex w wr)/\Hia (∀j,j<i->pr j=false))
 case atStart=>exact⟨0,ac,ac,rfl,Aa (Ex.refl _),Aa (fun j hj=>ac)⟩
 case round=>
  obtain⟨i,hi,hg,rfl,aB,aA⟩:=hrel;by_cases hlt:i<n
  .obtain⟨u,hu⟩:∃u,us[i]?=some u:=⟨_,List.getElem?_eq_getElem a8⟩;obtain⟨bb,o,rfl,hc⟩:=S3.o ac;have c1:=aB.o.cell (hc i u hu);have HC:=Aa (HP.o wr i u aB.o hu);have hlt':(i:Int)<(n:Int):=by omega
   clear hc hu
   cases hb:pr i with
   | true=>
    rw[hb]at HC;have HF:=Aa (Cy hlt hb aA.o);clear hb;go_wp2_with (go_at_call 269;refine HC.o.mono ?_;rintro e w'⟨rfl,hx⟩;have HX:=Aa (aB.o.trans hx);clear hx)
    exact zdo
   | false=>
    rw[hb]at HC;have HA:=Aa (show ∀j,j<i+1->pr j=false from fun j hj=>by
     by_cases e:j=i
     .subst e;exact hb
     .exact aA.o j ac)
    clear hb;go_wp2_with (go_at_call 269;refine HC.o.mono ?_;rintro e w'⟨rfl,hx⟩;have HX:=Aa (aB.o.trans hx);clear hx)
    exact zb2
  .exact zaH
theorem MD(w:World)(p0:Value)(v:Value)(n:Nat)(us:List Value)(hv:Sl w v n 1 us)(pr:Nat->Bool)
  (hp:∀(w1:World) (i:Nat) (u:Value),Ex w w1->us[i]?=some u->Calls Tryz.prog 262 #[u,p0] w1 fun e w'=>e= .returned (.bool (pr i))/\Ex w1 w'):
  Calls Tryz.prog 129 #[v,.func (.func 262) #[] #[p0]] w fun r w'=>r= .returned (.int .i64 (Cv pr n))/\Ex w w':=by
 obtain⟨hl,a,cap,rfl,s1,s2,s3⟩:=hv;rw[Nat.mul_one]at hl;have S3:=Aa s3;have HP:=Aa hp;have HL:=Aa hl;unfold maxLen at s2;clear s3 hp hl;go_enter Tryz.func129,Tryz.ntmps129
 go_wp2_with fail
 go_loopg [5,8] n (fun gg _ i' wr=>∃i:Nat,i<=n/\n-i<=gg/\i'= .int .i64 i/\Hia (Ex w wr)/\Hia (∀j,j<i->pr j=false))
 case atStart=>exact⟨0,ac,ac,rfl,Aa (Ex.refl _),Aa (fun j hj=>ac)⟩
 case round=>
  obtain⟨i,hi,hg,rfl,aB,aA⟩:=hrel;by_cases hlt:i<n
  .obtain⟨u,hu⟩:∃u,us[i]?=some u:=⟨_,List.getElem?_eq_getElem a8⟩;obtain⟨bb,o,rfl,hc⟩:=S3.o ac;have c1:=aB.o.cell (hc i u hu);have HC:=Aa (HP.o wr i u aB.o hu);have hlt':(i:Int)<(n:Int):=by omega
   clear hc hu
   cases hb:pr i with
   | true=>
    rw[hb]at HC;have HF:=Aa (Cy hlt hb aA.o);clear hb;go_wp2_with (go_at_call 262;refine HC.o.mono ?_;rintro e w'⟨rfl,hx⟩;have HX:=Aa (aB.o.trans hx);clear hx)
    exact zdo
   | false=>
    rw[hb]at HC;have HA:=Aa (show ∀j,j<i+1->pr j=false from fun j hj=>by
     by_cases e:j=i
     .subst e;exact hb
     .exact aA.o j ac)
    clear hb;go_wp2_with (go_at_call 262;refine HC.o.mono ?_;rintro e w'⟨rfl,hx⟩;have HX:=Aa (aB.o.trans hx);clear hx)
    exact zb2
  .exact zaH
theorem UL{p m:Nat}(hp:1<=p):CH p m 0=0:=by
 have h:=CQ (p:=p) (m:=m) hp 0
 rwa[DK hp (Dh hp 0)]at h
theorem Ok{p m a b:Nat}(hp:1<=p)(ha:a<p^m)(hb:b<p^m)(h:AG p m a (CH p m b)=0):a=b:=by
 have h1:AG p m (AG p m a (CH p m b)) b=a:=by
  rw[BG hp,DT (CH p m b),CQ hp,Bt hp ha]
 rw[h,DK hp hb]at h1;exact h1.symm
theorem Zq{q:Nat}{x y:Int}(hx:0<=x/\x<q)(hy:0<=y/\y<q)(h:Ar q x=Ar q y):x=y:=by
 have h1:=Fy hx.1 hx.2;have h2:=Fy hy.1 hy.2;rw[h]at h1;omega
theorem FV{p m:Nat}(hp:2<=p)(hm:1<=m):Ar (p^m) 1=1:=Ay (q:=p^m) (x:=1) (Bz hp hm)
theorem TU:∀ {l k:List Nat},l.Pairwise (·< ·)->k.Pairwise (·< ·)->(∀x,x∈l↔x∈k)->l=k
 | [], [],_,_,_=>rfl
 | [],y :: k,_,_,h=>by have:=(h y).2 (List.mem_cons_self ..);cases this
 | x :: l, [],_,_,h=>by have:=(h x).1 (List.mem_cons_self ..);cases this
 | x :: l,y :: k,hl,hk,h=>by
  obtain⟨l1,l2⟩:=List.pairwise_cons.1 hl;obtain⟨k1,k2⟩:=List.pairwise_cons.1 hk;have e:x=y:=by
   rcases List.mem_cons.1 ((h x).1 (List.mem_cons_self ..)) with e|e
   .exact e
   .rcases List.mem_cons.1 ((h y).2 (List.mem_cons_self ..)) with e2|e2
    .exact e2.symm
    .have h1:=k1 x e;have h2:=l1 y e2;omega
  subst e;rw[TU l2 k2 fun z=>?_];constructor
  .intro hz;rcases List.mem_cons.1 ((h z).1 (List.mem_cons_of_mem _ hz)) with e|e
   .have:=l1 z hz;omega
   .exact e
  .intro hz;rcases List.mem_cons.1 ((h z).2 (List.mem_cons_of_mem _ hz)) with e|e
   .have:=k1 z hz;omega
   .exact e
section
variable {p m:Nat} {ml:List Int} {N R:Nat} {a:Nat->Nat->Int} {piv:List Nat} {c0 c:Nat} {x:Nat->Int}
theorem Kv.ex(hP:PV p m R N a piv c0)(aA:∀i:Nat,piv[i]?≠some c):∀k,k<=piv.length->∃x,Kv p m a piv c k x
 | 0,_=>⟨_,Kv.zero⟩
 | k+1,hk=>by
  obtain⟨x,hx⟩:=Kv.ex hP aA k ac;have hq:piv[k]?=some (piv[k]'ac):=List.getElem?_eq_getElem _;exact⟨_,hx.succ hP hq fun e=>aA k (by rw[hq,e])⟩
theorem Ju(hp:2<=p){f:Nat->Int}{k:Nat}(hk:k<N)(h:∀j,j<N->j≠k->f j≠0->x j=0):dt p m ml N f x=Ai p m (lw ml) (Ar (p^m) (f k)) (Ar (p^m) (x k)):=by
 have aA:(il N f).length=N:=AL _ _;have hg:∀j,j<N->(il N f).getD j 0=f j:=fun j hj=>by
  exact zdn
 have e1:Cb p m ml (il N f) (il N x) 0=AG p m (Cb p m ml (il N f) (il N fun _=>(0:Int)) 0) (Ai p m (lw ml) (Ar (p^m) ((il N f).getD k 0)) (Ar (p^m) (x k))):=
  LC hp aA hk rfl fun j hj aB hr=>h j hj aB (by rwa[hg j hj]at hr)
 have e0:Cb p m ml (il N f) (il N fun _=>(0:Int)) 0=0:=by
  have:=E7 (p:=p) (m:=m) (ml:=ml) (N:=N) hp (f:=fun _=>0) (x:=f) (fun j _=>rfl);rw[Kn]at this;exact this
 show Cb p m ml (il N f) (il N x) 0=_
 rw[e1,e0,hg k hk,DK ac (AY ac _ _)]
theorem Kv.dt_piv(hp:2<=p)(hm:1<=m)(hc:c<N)(h:Kv p m a piv c piv.length x){f:Nat->Int}{i q:Nat}(hq:piv[i]?=some q)(aC:q<N)(aD:q≠c)(aI:f q=1)(hz:∀k r:Nat,piv[k]?=some r->k≠i->f r=0):
  dt p m ml N f x=AG p m (Ar (p^m) (f c)) (CH p m (Ar (p^m) (a i c))):=by
 have aB:(il N f).length=N:=AL _ _;have aE:0<p^m:=Nat.pow_pos ac;have hg:∀j,j<N->(il N f).getD j 0=f j:=fun j hj=>by
  exact zdn
 have aH:i<piv.length:=(List.getElem?_eq_some_iff.1 hq).1;have e1:dt p m ml N f (Az (fun _=>(0:Int)) c 1)=Ar (p^m) (f c):=by
  rw[Ju hp hc fun j hj aG _=>(show Az (fun _=>(0:Int)) c 1 j=0 from Ad _ _ aG),Ab,FV hp hm,BA hp hm (B9 aE _)]
 have e2:Cb p m ml (il N f) (il N x) 0=AG p m (Cb p m ml (il N f) (il N (Az (fun _=>(0:Int)) c 1)) 0) (Ai p m (lw ml) (Ar (p^m) ((il N f).getD q 0)) (Ar (p^m) (x q))):=
  LC hp aB aC (Ad _ _ aD) fun j hj aF hr=>by
   rw[hg j hj]at hr;by_cases e:j=c
   .rw[e,h.c1,Ab]
   .rw[Ad _ _ e];refine h.z j e fun k hk aA=>?_;by_cases ek:k=i
    .subst ek;rw[hq]at aA;injection aA with aA;exact aF aA.symm
    .exact hr (hz k j aA ek)
 show Cb p m ml (il N f) (il N x) 0=_
 rw[e2];show AG p m (dt p m ml N f (Az (fun _=>(0:Int)) c 1)) _=_
 rw[e1,hg q aC,aI,h.pv i q aH hq,FV hp hm,Ay (Dh ac _),Cp hp hm (Dh ac _)]
def RR(p m N R:Nat)(a:Nat->Nat->Int)(piv:List Nat):Prop:=∃c,c<=N/\PV p m R N a piv c/\(piv.length=R∨c=N)
theorem RR.sol(hp:2<=p)(hm:1<=m)(h:RR p m N R a piv)(hc:c<N)(aA:∀i:Nat,piv[i]?≠some c)(hx:Kv p m a piv c piv.length x):BY p m ml N R a x:=by
 obtain⟨c1,h1,h2,h3⟩:=h;exact hx.sol hp hm h2 h3 h1 hc aA
theorem RR.piv_iff(hp:2<=p)(hm:1<=m)(h:RR p m N R a piv)(hc:c<N):c∈piv↔¬∃x,BY p m ml N R a x/\Ar (p^m) (x c)≠0/\∀j,c<j->x j=0:=by
 have h0:=h;obtain⟨c1,h1,hP,h3⟩:=h;constructor
 .rintro aA⟨x,hS,hx,hz⟩;obtain⟨i,hi,e⟩:=List.getElem_of_mem aA;have hq:piv[i]?=some c:=by rw[List.getElem?_eq_getElem hi,e]
  have:=hS i (by have:=hP.le;omega);rw[Ju hp hc fun j hj aD hf=>by
   rcases Nat.lt_or_gt_of_ne aD with e1|e1
   .exact absurd (hP.lead i c j hq e1) hf
   .exact hz j e1,hP.one i c hq,FV hp hm,Cp hp hm (B9 (Nat.pow_pos ac) _)]at this
  exact hx this
 .intro hn;by_cases aA:c∈piv
  .exact aA
  .exfalso;have aC:∀i:Nat,piv[i]?≠some c:=fun i hi=>aA (List.mem_of_getElem? hi);obtain⟨x,hx⟩:=Kv.ex hP aC piv.length (Nat.le_refl _);refine hn ⟨x,h0.sol hp hm hc aC hx,by rw[hx.c1,FV hp hm];decide,fun j hj=>?_⟩;by_cases hj2:∃i,i<piv.length/\piv[i]?=some j
   .obtain⟨i,hi,aB⟩:=hj2;rw[hx.pv i j hi aB,hP.lead i j c aB hj,Cf,UL ac];rfl
   .exact hx.z j ac fun i hi aB=>hj2 ⟨i,hi,aB⟩
theorem RR.asc(h:RR p m N R a piv):piv.Pairwise (·< ·)/\∀q∈piv,q<N:=by
 obtain⟨c1,h1,hP,h3⟩:=h;refine⟨List.pairwise_iff_getElem.2 fun i j hi hj aA=>hP.asc i j _ _ aA (List.getElem?_eq_getElem hi) (List.getElem?_eq_getElem hj),fun q hq=>?_⟩;obtain⟨i,hi,e⟩:=List.getElem_of_mem hq;have:=hP.lt i q au;omega
theorem YJ(hp:2<=p)(hm:1<=m){R':Nat}{a':Nat->Nat->Int}{piv':List Nat}(h:RR p m N R a piv)(h':RR p m N R' a' piv')(hS:∀x,BY p m ml N R a x↔BY p m ml N R' a' x):
  piv=piv'/\∀i,i<piv.length->∀j,j<N->a i j=a' i j:=by
 have aF:piv=piv':=TU h.asc.1 h'.asc.1 fun q=>by
  constructor
  .intro hq;have aA:=h.asc.2 q hq;refine(h'.piv_iff (ml:=ml) hp hm aA).2 ?_;rintro⟨x,h1,h2⟩;exact(h.piv_iff (ml:=ml) hp hm aA).1 hq ⟨x,(hS x).2 h1,h2⟩
  .intro hq;have aA:=h'.asc.2 q hq;refine(h.piv_iff (ml:=ml) hp hm aA).2 ?_;rintro⟨x,h1,h2⟩;exact(h'.piv_iff (ml:=ml) hp hm aA).1 hq ⟨x,(hS x).1 h1,h2⟩
 subst aF;refine⟨rfl,fun i hi j hj=>?_⟩;have hq:piv[i]?=some piv[i]:=List.getElem?_eq_getElem hi;obtain⟨q,aE⟩:=nA (piv[i]);rw[aE]at hq;have aA:=h.asc.2 q (List.mem_of_getElem? hq);have aH:=h';obtain⟨c1,h1,hP,h3⟩:=h;obtain⟨c1',h1',aB,h3'⟩:=h';by_cases hjp:∃k:Nat,piv[k]?=some j
 .obtain⟨k,hk⟩:=hjp;by_cases e:k=i
  .subst e;rw[hP.one k j hk,aB.one k j hk]
  .rw[hP.zer k j i hk (by have:=hP.le;omega) (fun e2=>e e2.symm),aB.zer k j i hk (by have:=aB.le;omega) (fun e2=>e e2.symm)]
 .have aC:∀k:Nat,piv[k]?≠some j:=fun k hk=>hjp ⟨k,hk⟩;obtain⟨x,hx⟩:=Kv.ex aB aC piv.length (Nat.le_refl _);have hs:=(hS x).2 (aH.sol hp hm hj aC hx) i (by have:=hP.le;omega);rw[hx.dt_piv hp hm hj hq aA (fun e=>aC i (by rw[<-e];exact hq)) (hP.one i q hq) fun k r hk aG=>hP.zer k r i hk (by have:=hP.le;omega) (fun e=>aG e.symm)]at hs;have aD:0<p^m:=Nat.pow_pos ac;exact Zq (hP.rng i (by have:=hP.le;omega) j hj) (aB.rng i (by have:=aB.le;omega) j hj) (Ok ac (B9 aD _) (B9 aD _) hs)
def Cl(p m:Nat)(ml:List Int)(N R:Nat)(a:Nat->Nat->Int)(v:Nat->Int):Prop:=∀x,BY p m ml N R a x->dt p m ml N v x=0
theorem Cl.sol_iff{R':Nat}{a':Nat->Nat->Int}:(∀i,i<R'->Cl p m ml N R a (a' i))↔∀x,BY p m ml N R a x->BY p m ml N R' a' x:=
 ⟨fun h x hx i hi=>h i hi x hx,fun h i hi x hx=>h x hx i hi⟩
structure Vi(N:Nat)(a:Nat->Nat->Int)(pl:Nat->Nat)(n:Nat):Prop where
 lt:∀i,i<n->pl i<N
 one:∀i,i<n->a i (pl i)=1
 zer:∀i j,j<i->i<n->a i (pl j)=0
theorem Vi.mono{pl:Nat->Nat}{n k:Nat}(h:Vi N a pl n)(hk:k<=n):Vi N a pl k:=⟨fun i hi=>h.lt i ac,fun i hi=>h.one i ac,fun i j hj hi=>h.zer i j hj ac⟩
theorem Vi.solve(hp:2<=p)(hm:1<=m){pl:Nat->Nat}:∀n,Vi N a pl n->∀y:Nat->Int,∃x,(∀j,(∀i,i<n->pl i≠j)->x j=y j)/\BY p m ml N n a x
 | 0,_,y=>⟨y,fun _ _=>rfl,fun i hi=>by omega⟩
 | n+1,h,y=>by
  have hq0:0<p^m:=Nat.pow_pos ac;obtain⟨s,hs⟩:=nA (dt p m ml N (a n) (Az y (pl n) 0));have hsl:s<p^m:=by rw[<-hs];exact QA hp _ _
  obtain⟨x,aA,aE⟩:=Vi.solve hp hm n (h.mono ac) (Az y (pl n) ((CH p m s:Nat):Int));refine⟨x,fun j hj=>?_,fun i hi=>?_⟩
  .rw[aA j fun i hi=>hj i ac,Ad _ _ (fun e=>hj n ac e.symm)]
  .by_cases e:i=n
   .subst e;have aB:(il N (a i)).length=N:=AL _ _;have hg:∀j,j<N->(il N (a i)).getD j 0=a i j:=fun j hj=>by
     exact zdn
    have aC:=h.lt i ac;have e1:Cb p m ml (il N (a i)) (il N x) 0=AG p m (Cb p m ml (il N (a i)) (il N (Az y (pl i) 0)) 0) (Ai p m (lw ml) (Ar (p^m) ((il N (a i)).getD (pl i) 0)) (Ar (p^m) (x (pl i)))):=
     LC hp aB aC (Ab _ _ _) fun j hj aD hr=>by
      rw[hg j hj]at hr;rw[aA j fun k hk e=>hr (by rw[<-e];exact h.zer i k hk ac),Ad _ _ aD,Ad _ _ aD]
    have e3:x (pl i)=((CH p m s:Nat):Int):=by
     rw[aA (pl i) fun k hk e=>by
      have h1:=h.zer i k hk ac;rw[e,h.one i ac]at h1;exact absurd h1 ae,Ab]
    show Cb p m ml (il N (a i)) (il N x) 0=0
    rw[e1,hg _ aC,h.one i ac,e3,FV hp hm,Ay (Dh ac _),Cp hp hm (Dh ac _)];show AG p m (dt p m ml N (a i) (Az y (pl i) 0)) _=0
    rw[hs,CQ ac]
   .exact aE i ac
theorem Vi.zero(hp:2<=p)(hm:1<=m){pl:Nat->Nat}{n:Nat}(h:Vi N a pl n){r:Nat->Int}(hz:∀i,i<n->r (pl i)=0)(hc:Cl p m ml N n a r){k:Nat}(hk:k<N):Ar (p^m) (r k)=0:=by
 by_cases hkp:∃i,i<n/\pl i=k
 .obtain⟨i,hi,rfl⟩:=hkp;rw[hz i hi,Cf]
 .obtain⟨x,h1,h2⟩:=Vi.solve (ml:=ml) hp hm n h (Az (fun _=>0) k 1);have h3:=hc x h2;rw[Ju hp hk fun j hj aA hr=>by
   rw[h1 j fun i hi e=>hr (by rw[<-e];exact hz i hi),Ad _ _ aA],h1 k fun i hi e=>hkp ⟨i,hi,e⟩,Ab,FV hp hm,BA hp hm (B9 (Nat.pow_pos ac) _)]at h3
  exact h3
end
def Stp(w:World)(base g R N:Nat)(a':Nat->Nat->Int)(avs:List Nat)(r:Ending)(w':World):Prop:=
 (∃t,r= .returned t)/\(∃aB aA,EM w' base g R N aB aA a' avs)/\Kp w w' avs/\∀w0,Ex w0 w->w0.heap.size<=base->Ex w0 w'
theorem Xh(w:World){base g R N:Nat}{blk cap:Nat->Nat}{a:Nat->Nat->Int}{avs:List Nat}(h:EM w base g R N blk cap a avs)(Bk Ba:Nat)(s k:Nat)(hs:s<R)(hk:k<R)(aA:s≠k)(aB:Bk∈avs)(aC:Ba∈avs)
  (ck:w.cell? (Bk,0)=some (.int .i64 k)) (ca:w.cell? (Ba,0)=some (.int .i64 s)):
  Calls Tryz.prog 249 #[.slice (some (g,0)) R R,.pointer (some (Bk,0)),.pointer (some (Ba,0))] w (Stp w base g R N (DE a s k) avs):=by
 have c1:=h.cell hs;have c2:=h.cell hk;have f1:=h.arr.frz s;have f2:=h.arr.frz k;have i1:(0:Int)<=(s:Int):=ac;have i2:(s:Int)<(R:Int):=ac;have i3:(0:Int)<=(k:Int):=ac;have i4:(k:Int)<(R:Int):=ac;have n1:¬s=k:=aA;have n2:¬k=s:=fun e=>aA e.symm;have ck2:(w.setCell (g,s) (.slice (some (blk k,0)) N (cap k))).cell? (Bk,0)=some (.int .i64 k):=by rw[Ah (h.av Bk aB).2.1];exact ck
 have ca2:(w.setCell (g,s) (.slice (some (blk k,0)) N (cap k))).cell? (Ba,0)=some (.int .i64 s):=by rw[Ah (h.av Ba aC).2.1];exact ca
 have ck3:(w.setCell (g,k) (.slice (some (blk s,0)) N (cap s))).cell? (Bk,0)=some (.int .i64 k):=by rw[Ah (h.av Bk aB).2.1];exact ck
 have ca3:(w.setCell (g,k) (.slice (some (blk s,0)) N (cap s))).cell? (Ba,0)=some (.int .i64 s):=by rw[Ah (h.av Ba aC).2.1];exact ca
 have HE:=Aa (h.ex (Ex.refl w).drew);have HS:=Aa (HE.o.swp hs hk aA);have HM:=Aa (h.ex (Ex.refl w).drew |>.arr.set s (Ej blk cap N k));obtain⟨aE,aD,HB,HR⟩:=Eq (show Kp (w.drew.setCell (g,s) (Ej blk cap N k)) ((w.drew.setCell (g,s) (Ej blk cap N k)).setCell (g,k) (Ej blk cap N s)) avs from fun B hB=>Below.heap_setCell _ ⟨g,k,none⟩ _ B (fun e=>(h.av B hB).2.1 e.symm)) (show ∀w0,Ex w0 w->w0.heap.size<=base->Ex w0 ((w.drew.setCell (g,s) (Ej blk cap N k)).setCell (g,k) (Ej blk cap N s)) from fun w0 hx hb=>HM.o.exSet hb (HE.o.arr.exSet hb hx.drew s _) k _) h (show s<R/\k<R/\s≠k from⟨hs,hk,aA⟩);clear h hs hk aA;go_enter Tryz.func249,Tryz.ntmps249
 go_wp2_with fail
 go_region
 all_goals
  go_wp2_with fail
  go_end0
  refine⟨⟨_,rfl⟩,⟨_,_,HS.o⟩,?_,fun w0 hx hb=>?_⟩
  .exact((HB.o.kpx (Ex.refl w).drew).trans (HE.o.kpg s (Ej blk cap N k))).trans (aE.o)
  .exact(aD.o w0 hx hb)
theorem Xj{p m:Nat}{ml:List Int}{b x0:Nat}(w0 w:World)(hg:Bh w0 b p m ml x0)(aC:Ex w0 w){base g R N:Nat}{blk cap:Nat->Nat}{a:Nat->Nat->Int}{avs:List Nat}(h:EM w base g R N blk cap a avs)(hb:w0.heap.size<=base)(hN:N<=1000)(Bg Bi Ba:Nat)(s:Nat)(aB:Int)(hs:s<R)(hBg:Bg∈avs)(hBi:Bi∈avs)(hBa:Ba∈avs)
  (cg:w.cell? (Bg,0)=some (.pointer (some (b,0)))) (ci:w.cell? (Bi,0)=some (.int .i64 aB)) (ca:w.cell? (Ba,0)=some (.int .i64 s)):
  Calls Tryz.prog 251 #[.slice (some (g,0)) R R,.pointer (some (Bg,0)),.pointer (some (Bi,0)),.pointer (some (Ba,0))] w (Stp w base g R N (Az a s (BM p m ml (Ar (p^m) aB) (a s))) avs):=by
 have c1:=h.cell hs;have f1:=h.arr.frz s;have i1:(0:Int)<=(s:Int):=ac;have i2:(s:Int)<(R:Int):=ac;obtain⟨k1,k2⟩:=(h.row s hs).caps;unfold maxLen at k2;obtain⟨HB,HR,HX0,HBB,aL,aO,aN,aF⟩:=On h hs aC hb (fun w' (hx:Ex w w')=>Nx w' (hg.ex (aC.trans hx)) N (a s) aB (.slice (some (blk s,0)) N (cap s)) (((h.row s hs).isl).ex hx) hN) ca f1 c1;clear h hs hg aC hb;go_enter Tryz.func251,Tryz.ntmps251
 go_wp2_with fail
 have E0:Ex w w.drew:=(Ex.refl w).drew
 go_region_law
  ((first
      | (go_simp;go_at_call 252;(with_reducible refine(aL.o _ E0).mono ?_);rintro e wx⟨gg,rfl,aA,hy⟩;have aD:=hy.cell (E0.cell aO.o);have aJ:=hy.cell (E0.cell aF.o);have aI:=hy.frz (E0.cell aF.o) (E0.frz aF.o aN.o))))
 all_goals
  have EX:=Aa (E0.trans hy);have aG:=Aa (HB.o.ex EX.o);have aH:=aA.lt.1;have aE:=Aa (aG.o.put HR.o (aA.mono (b':=base) (by have:=HB.o.arr.lt;have:=E0.size;omega):A9 wx base 3 gg N N _) (fun i hi _ e=>by have:=(HB.o.row i hi).lt.2;have:=E0.size;omega) (fun e=>by have:=HB.o.arr.lt.2;have:=E0.size;omega) (fun B hB e=>by have:=(HB.o.av B hB).1;have:=E0.size;omega));have aM:=Aa ((HB.o.kpx EX.o).trans (aG.o.kpg s (.slice (some (gg,0)) N N)));have aK:=Aa (show ∀w0,Ex w0 w->w0.heap.size<=base->Ex w0 (wx.setCell (g,s) (.slice (some (gg,0)) N N)) from fun w0 hx hb=>aG.o.arr.exSet hb (hx.trans EX.o) s _);clear aA hy aD aJ aI aH E0 ca c1 f1;go_wp2_with fail
  go_end0
  exact⟨⟨_,rfl⟩,⟨_,_,aE.o⟩,aM.o,aK.o⟩
theorem Xm{p m:Nat}{ml:List Int}{b x0:Nat}(w0 w:World)(hg:Bh w0 b p m ml x0)(aG:Ex w0 w){base g R N:Nat}{blk cap:Nat->Nat}{a:Nat->Nat->Int}{avs:List Nat}(h:EM w base g R N blk cap a avs)(hb:w0.heap.size<=base)(hN:N<=1000)(Bg Bi Bx Ba:Nat)(s i:Nat)(x:Int)(hs:s<R)(hi:i<R)(aH:i≠s)(aS:Bg∈avs)(aR:Bi∈avs)(aQ:Bx∈avs)(aT:Ba∈avs)
  (cg:w.cell? (Bg,0)=some (.pointer (some (b,0)))) (ci:w.cell? (Bi,0)=some (.int .i64 i)) (cx:w.cell? (Bx,0)=some (.int .i64 x)) (ca:w.cell? (Ba,0)=some (.int .i64 s)):
  Calls Tryz.prog 253 #[.slice (some (g,0)) R R,.pointer (some (Bg,0)),.pointer (some (Bi,0)),.pointer (some (Bx,0)),.pointer (some (Ba,0))] w (Stp w base g R N (Az a i (BN p m ml (a i) (CH p m (Ar (p^m) x)) (a s))) avs):=by
 have p2:=hg.sh.p2;have c1:=h.cell hs;have c2:=h.cell hi;have i1:(0:Int)<=(s:Int):=ac;have i2:(s:Int)<(R:Int):=ac;have i3:(0:Int)<=(i:Int):=ac;have i4:(i:Int)<(R:Int):=ac;obtain⟨HB,aV,HBB,HR⟩:=Eq h aG hb (show s<R/\i<R/\i≠s from⟨hs,hi,aH⟩);obtain⟨K1,aI⟩:∃K,CH p m (Ar (p^m) x)=K:=⟨_,rfl⟩;have aB:=Aa (fun w' (h:Ex w0 w')=>OY w' (hg.ex h) x);have aD:K1<p^m:=by rw[<-aI];exact Dh ac _
 rw[aI]at aB ⊢;have aE:=Aa (show ∀n,Calls Tryz.prog 254 #[.pointer (some (b,0)),.slice (some (blk i,0)) N (cap i),(K1:Nat),.slice (some (blk s,0)) N (cap s)] (w.drewN n) fun r w'=>(∃t,r= .returned t)/\A9 w' base 3 (blk i) N (cap i) (iv (BN p m ml (a i) K1 (a s)))/\(w.drewN n).grownBy w' (some (blk i)) from fun n=>by
  have:=Wr w0 (w.drewN n) hg (aG.drewN n) N (blk i) (cap i) base (a i) (a s) (K1:Nat) (.slice (some (blk s,0)) N (cap s)) hb ((h.row i hi).drewN n) (((h.row s hs).drewN n).isl) (by show some (blk s)≠some (blk i);intro e;injection e with e;exact h.apart s i hs hi (fun e=>aH e.symm) e) hN;rw[Ay aD]at this;exact this)
 obtain⟨aL,aK,aJ,aM,aO,aN,aC⟩:=OK cg ci cx ca c1 c2 (show(∀B∈avs,some B≠some (blk i))/\some g≠some (blk i) from⟨fun B hB e=>by injection e with e;exact(h.av B hB).2.2 i hi e.symm,fun e=>by injection e with e;exact h.off i hi e.symm⟩);clear h hs hi aH hg aG hb aI aD p2;go_enter Tryz.func253,Tryz.ntmps253
 go_wp2_with fail
 have E0:Ex w w.drew:=(Ex.refl w).drew;have G0:Ex w0 w.drew:=aV.o.trans E0
 go_region_held3 (fun w'=>w'.cell? (Bg,0)=some (.pointer (some (b,0)))/\w'.cell? (Bi,0)=some (.int .i64 i)/\w'.cell? (Bx,0)=some (.int .i64 x)/\w'.cell? (Ba,0)=some (.int .i64 s)/\w'.cell? (g,i)=some (.slice (some (blk i,0)) N (cap i))/\w'.cell? (g,s)=some (.slice (some (blk s,0)) N (cap s)))
  (first|with_reducible exact⟨E0.cell aL.o,E0.cell aK.o,E0.cell aJ.o,E0.cell aM.o,E0.cell aN.o,E0.cell aO.o⟩|with_reducible exact⟨((Ex.refl w).drewN _).cell aL.o,((Ex.refl w).drewN _).cell aK.o,((Ex.refl w).drewN _).cell aJ.o,((Ex.refl w).drewN _).cell aM.o,((Ex.refl w).drewN _).cell aN.o,((Ex.refl w).drewN _).cell aO.o⟩|with_reducible exact⟨hgr.cell (((Ex.refl w).drewN _).cell aL.o) (aC.o.1 _ aS),hgr.cell (((Ex.refl w).drewN _).cell aK.o) (aC.o.1 _ aR),hgr.cell (((Ex.refl w).drewN _).cell aJ.o) (aC.o.1 _ aQ),hgr.cell (((Ex.refl w).drewN _).cell aM.o) (aC.o.1 _ aT),hgr.cell (((Ex.refl w).drewN _).cell aN.o) aC.o.2,hgr.cell (((Ex.refl w).drewN _).cell aO.o) aC.o.2⟩)
  ((first
      | (go_at_call 158;(with_reducible refine(aB.o _ G0).mono ?_);rintro e wx1⟨rfl,n1,rfl⟩)
      | (go_at_call 254;(with_reducible refine(aE.o _).mono ?_);rintro e wx2⟨⟨t,rfl⟩,hown,hgr⟩)))
 have aP:=Aa (fun n=>HB.o.ex ((Ex.refl w).drewN n));have aA:=Aa ((aP.o _).rowAt HR.o.2.1 hown hgr);have aW:=Aa ((HB.o.kpx ((Ex.refl w).drewN _)).trans aA.o.2);have aU:=Aa (show ∀aF,Ex aF w->aF.heap.size<=base->Ex aF wx2 from fun aF hx hb=>Ex.grown (hx.drewN _) ((aP.o _).row i HR.o.2.1) hb hgr);have aX:=Aa aA.o.1;clear hown hgr E0 G0 aA aE aB;go_wp2_with fail
 go_end0
 exact⟨⟨_,rfl⟩,⟨_,_,aX.o⟩,aW.o,aU.o⟩
theorem Xn(w:World){base g R N:Nat}{blk cap:Nat->Nat}{a:Nat->Nat->Int}{avs:List Nat}(h:EM w base g R N blk cap a avs)(Br Bs Bk Ba:Nat)(s k:Nat)(hs:s<R)(hk:k<R)(aA:s≠k)(aC:Bs∈avs)(aD:Bk∈avs)(aE:Ba∈avs)
  (cr:w.cell? (Br,0)=some (.slice (some (g,0)) R R)) (cs:w.cell? (Bs,0)=some (.slice none 0 0)) (ck:w.cell? (Bk,0)=some (.int .i64 k)) (ca:w.cell? (Ba,0)=some (.int .i64 s)):
  Calls Tryz.prog 248 #[.func (.func 249) #[] #[.pointer (some (Bk,0)),.pointer (some (Ba,0))],.pointer (some (Br,0)),.pointer (some (Bs,0))] w (Stp w base g R N (DE a s k) avs):=by
 have HC:=Aa (Xh w h Bk Ba s k hs hk aA aD aE ck ca);have aH:=Aa aC;have aG:=Aa cs;clear h hs hk aA aC aD aE ck ca cs;go_enter Tryz.func248,Tryz.ntmps248
 go_wp2_with (go_at_call 249;refine HC.o.mono ?_;rintro e w2⟨⟨t,rfl⟩,BC,aB,aF⟩;have hcs:=aB.cell aH.o aG.o)
 go_end0
 exact⟨⟨_,rfl⟩,BC,aB,aF⟩
theorem Xo{p m:Nat}{ml:List Int}{b x0:Nat}(w0 w:World)(hg:Bh w0 b p m ml x0)(aB:Ex w0 w){base g R N:Nat}{blk cap:Nat->Nat}{a:Nat->Nat->Int}{avs:List Nat}(h:EM w base g R N blk cap a avs)(hb:w0.heap.size<=base)(hN:N<=1000)(Br Bs Bg Bi Ba:Nat)(s:Nat)(aA:Int)(hs:s<R)(aD:Bs∈avs)(aF:Bg∈avs)(aE:Bi∈avs)(aG:Ba∈avs)
  (cr:w.cell? (Br,0)=some (.slice (some (g,0)) R R)) (cs:w.cell? (Bs,0)=some (.slice none 0 0)) (cg:w.cell? (Bg,0)=some (.pointer (some (b,0)))) (ci:w.cell? (Bi,0)=some (.int .i64 aA)) (ca:w.cell? (Ba,0)=some (.int .i64 s)):
  Calls Tryz.prog 248 #[.func (.func 251) #[] #[.pointer (some (Bg,0)),.pointer (some (Bi,0)),.pointer (some (Ba,0))],.pointer (some (Br,0)),.pointer (some (Bs,0))] w (Stp w base g R N (Az a s (BM p m ml (Ar (p^m) aA) (a s))) avs):=by
 have HC:=Aa (Xj w0 w hg aB h hb hN Bg Bi Ba s aA hs aF aE aG cg ci ca);have aJ:=Aa aD;have aI:=Aa cs;clear h hs aD aF aE aG cg ci ca cs hg aB hb;go_enter Tryz.func248,Tryz.ntmps248
 go_wp2_with (go_at_call 251;refine HC.o.mono ?_;rintro e w2⟨⟨t,rfl⟩,BC,aC,aH⟩;have hcs:=aC.cell aJ.o aI.o)
 go_end0
 exact⟨⟨_,rfl⟩,BC,aC,aH⟩
theorem Xp{p m:Nat}{ml:List Int}{b x0:Nat}(w0 w:World)(hg:Bh w0 b p m ml x0)(aA:Ex w0 w){base g R N:Nat}{blk cap:Nat->Nat}{a:Nat->Nat->Int}{avs:List Nat}(h:EM w base g R N blk cap a avs)(hb:w0.heap.size<=base)(hN:N<=1000)(Br Bs Bg Bi Bx Ba:Nat)(s i:Nat)(x:Int)(hs:s<R)(hi:i<R)(aB:i≠s)(aE:Bs∈avs)(aG:Bg∈avs)(aF:Bi∈avs)(aD:Bx∈avs)(aH:Ba∈avs)
  (cr:w.cell? (Br,0)=some (.slice (some (g,0)) R R)) (cs:w.cell? (Bs,0)=some (.slice none 0 0)) (cg:w.cell? (Bg,0)=some (.pointer (some (b,0)))) (ci:w.cell? (Bi,0)=some (.int .i64 i)) (cx:w.cell? (Bx,0)=some (.int .i64 x)) (ca:w.cell? (Ba,0)=some (.int .i64 s)):
  Calls Tryz.prog 248 #[.func (.func 253) #[] #[.pointer (some (Bg,0)),.pointer (some (Bi,0)),.pointer (some (Bx,0)),.pointer (some (Ba,0))],.pointer (some (Br,0)),.pointer (some (Bs,0))] w (Stp w base g R N (Az a i (BN p m ml (a i) (CH p m (Ar (p^m) x)) (a s))) avs):=by
 have HC:=Aa (Xm w0 w hg aA h hb hN Bg Bi Bx Ba s i x hs hi aB aG aF aD aH cg ci cx ca);have aK:=Aa aE;have aJ:=Aa cs;clear h hs hi aB aE aG aF aD aH cg ci cx ca cs hg aA hb;go_enter Tryz.func248,Tryz.ntmps248
 go_wp2_with (go_at_call 253;refine HC.o.mono ?_;rintro e w2⟨⟨t,rfl⟩,BC,aC,aI⟩;have hcs:=aC.cell aK.o aJ.o)
 go_end0
 exact⟨⟨_,rfl⟩,BC,aC,aI⟩
end Go.Proofs.YtehieobniamagaaGreat
