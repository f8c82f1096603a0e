/- Slices of slices; the reference's SameInts, SameRows, Few; slices.Index and Clone at An. -/
import Derived.Shelf.Sort.Plain
import Derived.Test.YtehieobniamagaaGreatProg
import Derived.Test.YtehieobniamagaaGreatZm10
namespace Go.Proofs.YtehieobniamagaaGreat
open Go.RowKit
set_option linter.all false
set_option maxRecDepth 100000
set_option maxHeartbeats 4000000
theorem zaG{P:Prop}(h:P:=by
 obtain rfl:i=n:=by omega
 have HF:=Aa (BT aA.o);go_wp2_with fail
 go_ret;exact⟨Af HF.o.symm,q,rfl⟩):P:=h
theorem zbS{P:Prop}(h:P:=by
 go_roundg (n-(i+1))
 case measure=>omega
 case rel=>exact⟨i+1,q+q',by omega,by omega,by go_num,rfl,HA⟩):P:=h
theorem Mc(w:World)(p0:Value)(v:Value)(n:Nat)(us:List Value)(hv:Sl w v n 1 us)(pr:Nat->Bool)
  (hp:∀(q i:Nat) (u:Value),us[i]?=some u->Calls Tryz.prog 117 #[u,p0] (w.drewN q) fun e w'=>e= .returned (.bool (pr i))/\∃q',w'=(w.drewN q).drewN q'):
  Calls Tryz.prog 169 #[v,.func (.func 117) #[] #[p0]] w fun r w'=>r= .returned (.int .i64 (Cu pr n))/\∃q,w'=w.drewN q:=by
 obtain⟨hl,a,cap,rfl,s1,s2,s3⟩:=hv;rw[Nat.mul_one]at hl;have S3:=Aa s3;have HP:=Aa hp;have HL:=Aa hl;unfold maxLen at s2;clear s3 hp hl;go_enter Tryz.func169,Tryz.ntmps169
 go_wp2_with fail
 go_loopg [5,8] n (fun gg _ i' wr=>∃i q:Nat,i<=n/\n-i<=gg/\i'= .int .i64 i/\wr=w.drewN q/\Hia (∀j,j<i->pr j=false))
 case atStart=>exact⟨0,0,ac,ac,rfl,rfl,Aa (fun j hj=>ac)⟩
 case round=>
  obtain⟨i,q,hi,hg,rfl,rfl,aA⟩:=hrel;by_cases hlt:i<n
  .obtain⟨u,hu⟩:∃u,us[i]?=some u:=⟨_,List.getElem?_eq_getElem a8⟩;obtain⟨bb,o,rfl,hc⟩:=S3.o ac;have c1:=hc i u hu;have HC:=Aa (HP.o q i u hu);have hlt':(i:Int)<(n:Int):=by omega
   clear hc hu
   cases hb:pr i with
   | true=>
    rw[hb]at HC;have HF:=Aa (Cx hlt hb aA.o);clear hb;go_wp2_with (go_at_call 117;refine HC.o.mono ?_;rintro e w'⟨rfl,q',rfl⟩)
    go_ret;exact⟨Af HF.o.symm,q+q',rfl⟩
   | false=>
    rw[hb]at HC;have HA:=Aa (show ∀j,j<i+1->pr j=false from fun j hj=>by
     by_cases e:j=i
     .subst e;exact hb
     .exact aA.o j ac)
    clear hb;go_wp2_with (go_at_call 117;refine HC.o.mono ?_;rintro e w'⟨rfl,q',rfl⟩)
    exact zbS
  .exact zaG
theorem Jg(w:World)(p0:Value)(v:Value)(n:Nat)(us:List Value)(hv:Sl w v n 1 us)(pr:Nat->Bool)
  (hp:∀(q i:Nat) (u:Value),us[i]?=some u->Calls Tryz.prog 117 #[u,p0] (w.drewN q) fun e w'=>e= .returned (.bool (pr i))/\∃q',w'=(w.drewN q).drewN q'):
  Calls Tryz.prog 116 #[v,.func (.func 117) #[] #[p0]] w fun r w'=>r= .returned (.bool ((List.range n).any pr))/\∃q,w'=w.drewN q:=by
 have HC:=Aa (Mc w p0 v n us hv pr hp);have HB:=Aa (D9 pr n);obtain⟨z,hz⟩:=nA (Cu pr n);rw[hz]at HC HB;clear hz hp hv;go_enter Tryz.func116,Tryz.ntmps116
 go_wp2_with (go_at_call 169;refine HC.o.mono ?_;rintro e w'⟨rfl,q,rfl⟩)
 go_ret;exact⟨Ap HB.o.symm,q,rfl⟩
theorem Mf(w:World)(p0:Value)(v:Value)(n:Nat)(us:List Value)(hv:Sl w v n 1 us)(pr:Nat->Bool)
  (hp:∀(q i:Nat) (u:Value),us[i]?=some u->Calls Tryz.prog 176 #[u,p0] (w.drewN q) fun e w'=>e= .returned (.bool (pr i))/\∃q',w'=(w.drewN q).drewN q'):
  Calls Tryz.prog 129 #[v,.func (.func 176) #[] #[p0]] w fun r w'=>r= .returned (.int .i64 (Cu pr n))/\∃q,w'=w.drewN q:=by
 obtain⟨hl,a,cap,rfl,s1,s2,s3⟩:=hv;rw[Nat.mul_one]at hl;have S3:=Aa s3;have HP:=Aa hp;have HL:=Aa hl;unfold maxLen at s2;clear s3 hp hl;go_enter Tryz.func129,Tryz.ntmps129
 go_wp2_with fail
 go_loopg [5,8] n (fun gg _ i' wr=>∃i q:Nat,i<=n/\n-i<=gg/\i'= .int .i64 i/\wr=w.drewN q/\Hia (∀j,j<i->pr j=false))
 case atStart=>exact⟨0,0,ac,ac,rfl,rfl,Aa (fun j hj=>ac)⟩
 case round=>
  obtain⟨i,q,hi,hg,rfl,rfl,aA⟩:=hrel;by_cases hlt:i<n
  .obtain⟨u,hu⟩:∃u,us[i]?=some u:=⟨_,List.getElem?_eq_getElem a8⟩;obtain⟨bb,o,rfl,hc⟩:=S3.o ac;have c1:=hc i u hu;have HC:=Aa (HP.o q i u hu);have hlt':(i:Int)<(n:Int):=by omega
   clear hc hu
   cases hb:pr i with
   | true=>
    rw[hb]at HC;have HF:=Aa (Cx hlt hb aA.o);clear hb;go_wp2_with (go_at_call 176;refine HC.o.mono ?_;rintro e w'⟨rfl,q',rfl⟩)
    go_ret;exact⟨Af HF.o.symm,q+q',rfl⟩
   | false=>
    rw[hb]at HC;have HA:=Aa (show ∀j,j<i+1->pr j=false from fun j hj=>by
     by_cases e:j=i
     .subst e;exact hb
     .exact aA.o j ac)
    clear hb;go_wp2_with (go_at_call 176;refine HC.o.mono ?_;rintro e w'⟨rfl,q',rfl⟩)
    exact zbS
  .exact zaG
theorem Jh(w:World)(p0:Value)(v:Value)(n:Nat)(us:List Value)(hv:Sl w v n 1 us)(pr:Nat->Bool)
  (hp:∀(q i:Nat) (u:Value),us[i]?=some u->Calls Tryz.prog 176 #[u,p0] (w.drewN q) fun e w'=>e= .returned (.bool (pr i))/\∃q',w'=(w.drewN q).drewN q'):
  Calls Tryz.prog 71 #[v,.func (.func 176) #[] #[p0]] w fun r w'=>r= .returned (.bool ((List.range n).any pr))/\∃q,w'=w.drewN q:=by
 have HC:=Aa (Mf w p0 v n us hv pr hp);have HB:=Aa (D9 pr n);obtain⟨z,hz⟩:=nA (Cu pr n);rw[hz]at HC HB;clear hz hp hv;go_enter Tryz.func71,Tryz.ntmps71
 go_wp2_with (go_at_call 129;refine HC.o.mono ?_;rintro e w'⟨rfl,q,rfl⟩)
 go_ret;exact⟨Ap HB.o.symm,q,rfl⟩
theorem DY:∀(n:Nat) (f:Nat->Nat),(∀i,i<n->f i<n)->(∀i j,i<n->j<n->f i=f j->i=j)->∀y,y<n->∃x,x<n/\f x=y
 | 0,f,_,_,y,hy=>absurd hy (by omega)
 | n+1,f,h1,h2,y,hy=>by
  have hn:=h1 n ac;by_cases hm:f n=n
  .by_cases hyn:y=n
   .exact⟨n,ac,ac⟩
   .obtain⟨x,hx,e⟩:=DY n f (fun i hi=>by
     have h3:=h1 i ac;have h4:f i≠n:=fun e=>by
      have:=h2 i n ac ac ac;omega
     omega) (fun i j hi hj e=>h2 i j ac ac e) y ac
    exact⟨x,ac,e⟩
  .have aA:=DY n (fun i=>if f i=n then f n else f i) (fun i hi=>by
     split
     .omega
     .have:=h1 i ac;omega) (fun i j hi hj e=>by
     split at e <;> split at e
     .exact h2 i j ac ac ac
     .have:=h2 n j ac ac e;omega
     .have:=h2 i n ac ac e;omega
     .exact h2 i j ac ac e)
   by_cases hy1:y=f n
   .exact⟨n,ac,hy1.symm⟩
   .by_cases hyn:y=n
    .obtain⟨x,hx,e⟩:=aA (f n) ac;split at e
     .rename_i h;exact⟨x,ac,ac⟩
     .have:=h2 x n ac ac e;omega
    .obtain⟨x,hx,e⟩:=aA y ac;split at e
     .omega
     .exact⟨x,ac,e⟩
structure Bd(n:Nat)(f:Nat->Nat):Prop where
 lt:∀i,i<n->f i<n
 off:∀i,n<=i->f i=i
 inj:∀i j,f i=f j->i=j
def Ej:Nat->Nat:=fun i=>i
def Aq(f g:Nat->Nat):Nat->Nat:=fun i=>g (f i)
def A7(n:Nat)(f:Nat->Nat):Nat->Nat:=fun j=>if j<n then((List.range n).find? fun i=>f i==j).getD 0 else j
theorem Fb(n:Nat):Bd n Ej:=⟨fun _ h=>h,fun _ _=>rfl,fun _ _ h=>h⟩
theorem Bd.of_inj{n:Nat}{f:Nat->Nat}(h1:∀i,i<n->f i<n)(h2:∀i,n<=i->f i=i)(h3:∀i j,i<n->j<n->f i=f j->i=j):Bd n f:=
 ⟨h1,h2,fun i j e=>by
  by_cases hi:i<n <;> by_cases hj:j<n
  .exact h3 i j hi hj e
  .have:=h1 i hi;have:=h2 j ac;omega
  .have:=h1 j hj;have:=h2 i ac;omega
  .have:=h2 i ac;have:=h2 j ac;omega⟩
theorem Bd.comp{n:Nat}{f g:Nat->Nat}(hf:Bd n f)(hg:Bd n g):Bd n (Aq f g):=
 ⟨fun i hi=>hg.lt _ (hf.lt i hi),fun i hi=>by show g (f i)=i;rw[hf.off i hi,hg.off i hi],fun i j e=>hf.inj i j (hg.inj _ _ e)⟩
theorem Bd.surj{n:Nat}{f:Nat->Nat}(hf:Bd n f){y:Nat}(hy:y<n):∃x,x<n/\f x=y:=
 DY n f hf.lt (fun i j _ _ e=>hf.inj i j e) y hy
theorem Bd.lt_iff{n:Nat}{f:Nat->Nat}(hf:Bd n f)(i:Nat):f i<n↔i<n:=
 ⟨fun h=>by
  by_cases hi:i<n
  .exact hi
  .have:=hf.off i ac;omega,hf.lt i⟩
theorem Bd.inv_l{n:Nat}{f:Nat->Nat}(hf:Bd n f)(i:Nat):A7 n f (f i)=i:=by
 unfold A7;by_cases hi:i<n
 .rw[if_pos (hf.lt i hi)]
  cases h:(List.range n).find? fun k=>f k==f i with
  | none=>
   have:=List.find?_eq_none.1 h i (List.mem_range.2 hi);simp at this
  | some k=>
   have:=List.find?_some h;exact hf.inj k i dv
 .rw[if_neg (by rw[hf.off i ac];exact hi),hf.off i ac]
theorem Bd.inv_r{n:Nat}{f:Nat->Nat}(hf:Bd n f)(j:Nat):f (A7 n f j)=j:=by
 by_cases hj:j<n
 .obtain⟨x,hx,rfl⟩:=hf.surj hj;rw[hf.inv_l]
 .have h1:A7 n f j=j:=by unfold A7;rw[if_neg hj]
  rw[h1,hf.off j ac]
theorem Bd.inv{n:Nat}{f:Nat->Nat}(hf:Bd n f):Bd n (A7 n f):=
 ⟨fun i hi=>by
   have:=(hf.lt_iff (A7 n f i)).1 (by rw[hf.inv_r];exact hi);exact this,fun i hi=>by unfold A7;rw[if_neg ac],fun i j e=>by
   have:=congrArg f e
   rwa[hf.inv_r,hf.inv_r]at this⟩
theorem ET(f g h:Nat->Nat):Aq (Aq f g) h=Aq f (Aq g h):=rfl
theorem Bd.then_inv{n:Nat}{f:Nat->Nat}(hf:Bd n f):Aq f (A7 n f)=Ej:=funext fun i=>hf.inv_l i
theorem Bd.inv_then{n:Nat}{f:Nat->Nat}(hf:Bd n f):Aq (A7 n f) f=Ej:=funext fun i=>hf.inv_r i
theorem Bd.inv_unique{n:Nat}{f g:Nat->Nat}(hf:Bd n f)(h:Aq f g=Ej):g=A7 n f:=by
 have:Aq (A7 n f) (Aq f g)=Aq (A7 n f) Ej:=by rw[h]
 rw[<-ET,hf.inv_then]at this;exact this
theorem NU(n:Nat):A7 n Ej=Ej:=((Fb n).inv_unique rfl).symm
theorem Bd.cancel{n:Nat}{f r:Nat->Nat}(hr:Bd n r):Aq (Aq f (A7 n r)) r=f:=by
 rw[ET,hr.inv_then];rfl
theorem GK{n:Nat}{f g:Nat->Nat}(hf:Bd n f)(hg:Bd n g)(h:∀i,i<n->f i=g i):f=g:=
 funext fun i=>by
  by_cases hi:i<n
  .exact h i hi
  .rw[hf.off i ac,hg.off i ac]
def Kq(f:Nat->Nat):Nat->Nat->Nat
 | 0=>Ej
 | k+1=>Aq (Kq f k) f
theorem Nv(f:Nat->Nat)(a b:Nat):Kq f (a+b)=Aq (Kq f a) (Kq f b):=by
 induction b with
 | zero=>rfl
 | succ b ih=>show Aq (Kq f (a+b)) f=_;rw[ih];rfl
theorem KP{n:Nat}{f:Nat->Nat}(hf:Bd n f):∀k,Bd n (Kq f k)
 | 0=>Fb n
 | k+1=>(KP hf k).comp hf
theorem Ju{f:Nat->Nat}{i k:Nat}(h:Kq f k i=i):∀m,Kq f (k*m) i=i
 | 0=>rfl
 | m+1=>by
  rw[Nat.mul_succ,Nv];show Kq f k (Kq f (k*m) i)=i
  rw[Ju h m,h]
theorem Bd.back{n:Nat}{f:Nat->Nat}(hf:Bd n f){i:Nat}(hi:i<n):∃k,1<=k/\k<=n/\Kq f k i=i:=by
 have aE:¬∀a b,a<n+1->b<n+1->Kq f a i=Kq f b i->a=b:=fun aA=>by
  obtain⟨x,hx,e⟩:=DY (n+1) (fun a=>Kq f a i) (fun a _=>by have:=(KP hf a).lt i hi;omega) aA n ac;have:=(KP hf x).lt i hi;omega
 have aD:∃a b,a<b/\b<n+1/\Kq f a i=Kq f b i:=by
  apply Classical.byContradiction;intro aB;refine aE fun a b ha hb e=>?_;apply Classical.byContradiction;intro aC;rcases Nat.lt_or_gt_of_ne aC with h|h
  .exact aB ⟨a,b,h,hb,e⟩
  .exact aB ⟨b,a,h,ha,e.symm⟩
 obtain⟨a,b,aC,hb,e⟩:=aD;refine⟨b-a,ac,ac,?_⟩;have h1:Kq f b=Aq (Kq f (b-a)) (Kq f a):=by rw[<-Nv];congr 1;omega
 rw[h1]at e;exact((KP hf a).inj _ _ e).symm
def PY:Nat->Nat
 | 0=>1
 | k+1=>(k+1)*PY k
theorem PW:∀k,1<=PY k
 | 0=>Nat.le_refl _
 | k+1=>Nat.mul_pos (by omega) (PW k)
theorem PX:∀n k,1<=k->k<=n->k ∣ PY n
 | 0,k,h1,h2=>by omega
 | n+1,k,h1,h2=>by
  by_cases h:k=n+1
  .subst h;exact Nat.dvd_mul_right _ _
  .exact Nat.dvd_trans (PX n k h1 (by omega)) (Nat.dvd_mul_left _ _)
theorem Bd.pw_fac{n:Nat}{f:Nat->Nat}(hf:Bd n f):Kq f (PY n)=Ej:=by
 refine GK (KP hf _) (Fb n) fun i hi=>?_;obtain⟨k,h1,h2,h3⟩:=hf.back hi;obtain⟨m,hm⟩:=PX n k h1 h2;rw[hm];exact Ju h3 m
inductive Gn(S:List (Nat->Nat)):(Nat->Nat)->Prop
 | one:Gn S Ej
 | step {f g:Nat->Nat}:Gn S f->g∈S->Gn S (Aq f g)
structure Xl(n:Nat)(H:(Nat->Nat)->Prop):Prop where
 one:H Ej
 mul:∀f g,H f->H g->H (Aq f g)
 inv:∀f,H f->H (A7 n f)
 isP:∀f,H f->Bd n f
theorem Gn.mul{S:List (Nat->Nat)}{f g:Nat->Nat}(hf:Gn S f)(hg:Gn S g):Gn S (Aq f g):=by
 induction hg with
 | one=>exact hf
 | step _ h ih=>exact ih.step h
theorem Gn.of{S:List (Nat->Nat)}{g:Nat->Nat}(h:g∈S):Gn S g:=Gn.one.step h
theorem Gn.isP{n:Nat}{S:List (Nat->Nat)}(hS:∀s∈S,Bd n s){f:Nat->Nat}(h:Gn S f):Bd n f:=by
 induction h with
 | one=>exact Fb n
 | step _ h ih=>exact ih.comp (hS _ h)
theorem Gn.pw{S:List (Nat->Nat)}{f:Nat->Nat}(h:Gn S f):∀k,Gn S (Kq f k)
 | 0=>Gn.one
 | k+1=>(h.pw k).mul h
theorem Gn.inv{n:Nat}{S:List (Nat->Nat)}(hS:∀s∈S,Bd n s){f:Nat->Nat}(h:Gn S f):Gn S (A7 n f):=by
 have hf:=h.isP hS;have h1:Aq f (Kq f (PY n-1))=Ej:=by
  have:Kq f (1+(PY n-1))=Ej:=by
   rw[show 1+(PY n-1)=PY n from by have:=PW n;omega];exact hf.pw_fac
  rw[Nv]at this;exact this
 rw[<-hf.inv_unique h1];exact h.pw _
theorem Gn.grp{n:Nat}{S:List (Nat->Nat)}(hS:∀s∈S,Bd n s):Xl n (Gn S):=
 ⟨.one,fun _ _=> .mul,fun _=> .inv hS,fun _ h=>Gn.isP hS h⟩
theorem Gn.sub{n:Nat}{S:List (Nat->Nat)}{H:(Nat->Nat)->Prop}(hH:Xl n H)(hS:∀s∈S,H s){f:Nat->Nat}(h:Gn S f):H f:=by
 induction h with
 | one=>exact hH.one
 | step _ h ih=>exact hH.mul _ _ ih (hS _ h)
theorem Gn.mono{S T:List (Nat->Nat)}(hS:∀s∈S,Gn T s){f:Nat->Nat}(h:Gn S f):Gn T f:=by
 induction h with
 | one=>exact .one
 | step _ h ih=>exact ih.mul (hS _ h)
def AX(b:Nat)(f:Nat->Nat):Prop:=∀i,i<b->f i=i
theorem K5(b:Nat):AX b Ej:=fun _ _=>rfl
theorem AX.comp{b:Nat}{f g:Nat->Nat}(hf:AX b f)(hg:AX b g):AX b (Aq f g):=fun i hi=>by
 show g (f i)=i;rw[hf i hi,hg i hi]
theorem AX.inv{n b:Nat}{f:Nat->Nat}(hP:Bd n f)(hf:AX b f):AX b (A7 n f):=fun i hi=>by
 have:=hP.inv_l i;rw[hf i hi]at this;exact this
theorem AX.all{n:Nat}{f:Nat->Nat}(hP:Bd n f)(hf:AX n f):f=Ej:=GK hP (Fb n) hf
theorem AX.div{n b:Nat}{f r:Nat->Nat}(hr:Bd n r)(hf:AX b f)(aA:AX b r)(e:r b=f b):AX (b+1) (Aq f (A7 n r)):=fun i hi=>by
 by_cases h:i=b
 .subst h;show A7 n r (f i)=i;rw[<-e];exact hr.inv_l i
 .exact AX.comp hf (AX.inv hr aA) i ac
section
variable {p m:Nat} {ml:List Int} {mv:Value}
end
section
variable {p m:Nat} {ml:List Int} {mv:Value}
end
def Cz(p m:Int)(ml:List Int)(p' m':Int)(aA:List Int):Bool:=p==p'&&m==m'&&ml==aA
theorem C7{p m:Int}{ml:List Int}{p' m':Int}{ml':List Int}:Cz p m ml p' m' ml'=true↔p=p'/\m=m'/\ml=ml':=by
 unfold Cz;simp[and_assoc]
theorem zde{P:Prop}(h:P:=by
 go_wp2_with fail
 go_ret;exact⟨rfl,HE.o⟩):P:=h
theorem zal{P:Prop}(h:P:=by
 have b3:((ml.length:Int) !=(aA.length:Int))=true:=by simp;omega
 have hr:R=false:=by
  rw[<-HR.o];exact Bool.eq_false_iff.2 fun h=>h3 (by rw[(C7.1 h).2.2])
 subst hr;have h3':¬((ml.length:Int)=(aA.length:Int)):=by omega
 clear h3 h1 h2;exact zde):P:=h
theorem zam{P:Prop}(h:P:=by
 have:=aM.o j hj;rw[List.getElem?_eq_getElem hj,List.getElem?_eq_getElem (by have:=H3.o;omega)];rw[List.getD_eq_getElem?_getD,List.getElem?_eq_getElem hj,List.getD_eq_getElem?_getD,List.getElem?_eq_getElem (by have:=H3.o;omega)]at this;simpa using this):P:=h
theorem zbj{P:Prop}(h:P:=by
 have hr:R=true:=aL.o.2 (List.ext_getElem? fun j=>by
  by_cases hj:j<ml.length
  .exact zam
  .rw[List.getElem?_eq_none (by omega),List.getElem?_eq_none (by have:=H3.o;omega)])
 subst hr;go_wp2_with fail
 go_ret;exact⟨rfl,HE.o.trans aB.o⟩):P:=h
theorem zbB{P:Prop}(h:P:=by
 have hr:R=false:=by
  rw[<-HR.o];exact Bool.eq_false_iff.2 fun h=>h2 (C7.1 h).2.1
 subst hr;clear h1 h2;exact zde):P:=h
theorem zbD{P:Prop}(h:P:=by
 have hr:R=false:=by
  rw[<-HR.o];exact Bool.eq_false_iff.2 fun h=>h1 (C7.1 h).1
 subst hr;clear h1;exact zde):P:=h
theorem UG(w:World)(p m:Int)(ml:List Int)(mv:Value)(aJ:Aj w mv ml)(p' m':Int)(aA:List Int)(aF:Value)(aC:Aj w aF aA):
  Calls Tryz.prog 191 #[.agg #[.int .i64 p,.int .i64 m,mv],.agg #[.int .i64 p',.int .i64 m',aF]] w fun r w'=>r= .returned (.bool (Cz p m ml p' m' aA))/\Ex w w':=by
 obtain⟨a0,a1,a2,ea,-⟩:=Az w p m mv;obtain⟨b0,b1,b2,eb,-⟩:=Az (w.alloc (.cells #[.int .i64 p,.int .i64 m,mv] 24)) p' m' aF;replace a0:=eb.cell a0;replace a1:=eb.cell a1;replace a2:=eb.cell a2;have aH:(w.alloc (.cells #[.int .i64 p,.int .i64 m,mv] 24)).heap.size=w.heap.size+1:=ag;rw[aH]at b0 b1 b2;have HE:=Aa (ea.trans eb);obtain⟨ma,mc,rfl,m1',m2,m3⟩:=aJ.open;obtain⟨na,nc,rfl,-,n2,n3⟩:=aC.open;unfold maxLen at m2 n2;obtain⟨R,hR⟩:=nA (Cz p m ml p' m' aA);rw[hR];have M3:=Aa m3;have N3:=Aa n3;have HR:=Aa hR;clear aJ aC aH ea eb m3 n3 hR;go_enter Tryz.func191,Tryz.ntmps191
 by_cases h1:p=p'
 .have aQ:(p !=p')=false:=by simpa using h1
  by_cases h2:m=m'
  .have aP:(m !=m')=false:=by simpa using h2
   by_cases h3:ml.length=aA.length
   .have b3:((ml.length:Int) !=(aA.length:Int))=false:=by simp;omega
    subst h1;subst h2;have hn:∃n,ml.length=n:=⟨_,rfl⟩;have aL:=Aa (show R=true↔ml=aA from by rw[<-HR.o,C7];simp);have H3:=Aa h3;rw[<-h3]at a0 a1 a2 b0 b1 b2 HE ⊢;clear h3 b3 hn;go_wp2_with fail
    generalize (w.alloc (.cells #[.int .i64 p,.int .i64 m,.slice ma ml.length mc] 24)).alloc (.cells #[.int .i64 p,.int .i64 m,.slice na ml.length nc] 24)=w1 at *;have A2:=Aa a2;have B2:=Aa b2
    go_loopw [31] (fun i' wr=>∃(i:Nat),i<=ml.length/\i'= .int .i64 i/\(∀j,j<i->ml.getD j 0=aA.getD j 0)/\Hia (Ex w1 wr)) (fun i' _=>ml.length-(intOf i').toNat)
    case atStart=>exact⟨0,ac,rfl,fun j hj=>ac,Aa (Ex.refl _)⟩
    case round=>
     obtain⟨i,hi,rfl,aD,aB⟩:=hrel;have aM:=Aa aD;clear aD a0 a1 b0 b1;by_cases hin:i<ml.length
     .obtain⟨mb,mo,rfl,aK⟩:=M3.o ac;obtain⟨nb,no,rfl,aI⟩:=N3.o (by have:=H3.o;omega);have c1:=aB.o.cell (HE.o.cell (aK i _ (show ml[i]?=some (ml.getD i 0) from by rw[List.getD_eq_getElem?_getD,List.getElem?_eq_getElem hin];rfl)));have c2:=aB.o.cell (HE.o.cell (aI i _ (show aA[i]?=some (aA.getD i 0) from by rw[List.getD_eq_getElem?_getD,List.getElem?_eq_getElem (by have:=H3.o;omega)];rfl)));have f2:=aB.o.cell A2.o;have g2:=aB.o.cell B2.o;have j1:(0:Int)<=(i:Int):=by omega
      have j2:(i:Int)<(ml.length:Int):=ac;have aO:m2=m2:=rfl;obtain⟨x,hx⟩:=nA (ml.getD i 0);obtain⟨y,hy⟩:=nA (aA.getD i 0);rw[hx]at c1;rw[hy]at c2;have aE:=Aa (show x=ml.getD i 0/\y=aA.getD i 0 from⟨hx.symm,hy.symm⟩);clear hx hy aK aI a2 b2 aO;by_cases hxy:x=y
      .have aN:=Aa (show ∀j,j<i+1->ml.getD j 0=aA.getD j 0 from fun j hj=>by
        by_cases e:j=i
        .subst e;rw[<-aE.o.1,<-aE.o.2,hxy]
        .exact aM.o j ac)
       have bb:(y !=x)=false:=by simp[hxy]
       have aG:y=x:=hxy.symm;subst aG;clear hxy;go_wp2_with fail
       go_roundw
       case rel=>first|exact⟨i+1,ac,by go_num,aN.o,aB⟩|((repeat apply Exists.intro);exact⟨⟨i+1,ac,by go_num,aN.o,aB⟩,rfl⟩)
       case measure=>simp[intOf];omega
      .have bb:(y !=x)=true:=by simpa using fun h=>hxy h.symm
       have hr:R=false:=Bool.eq_false_iff.2 fun h=>hxy (by rw[aE.o.1,aE.o.2,aL.o.1 h]);subst hr;have aG:¬y=x:=fun h=>hxy h.symm;clear hxy;go_wp2_with fail
       go_ret;exact⟨rfl,HE.o.trans aB.o⟩
     .obtain rfl:i=ml.length:=by omega
      exact zbj
   .exact zal
  .have aP:(m !=m')=true:=by simpa using h2
   exact zbB
 .have aQ:(p !=p')=true:=by simpa using h1
  exact zbD
theorem TV(p m:Int)(ml:List Int)(mv:Value)(w:World)(aP:Aj w mv ml)(cols:Int)(rows:List (List Int))(v:Value)(hv:BY w v rows):
  Calls Tryz.prog 145 #[.agg #[.int .i64 p,.int .i64 m,mv],.agg #[.int .i64 cols,v]] w fun r w'=>∃e,r= .returned (.int .i64 e)/\Lx p m ml cols rows e/\Ex w w':=by
 obtain⟨g0,g1,g2,e0,aH⟩:=Az w p m mv;have aV:=Aa aP;have HV:=Aa hv;obtain⟨za,zc,rfl,z1,z2,z3⟩:=hv.open;have Z3:=Aa z3;unfold maxLen at z2;obtain⟨xb,aJ⟩:=nA w.heap.size;rw[aJ]at g0 g1 g2 aH;have aT:=Aa (fun w' h=>Hg p m ml mv w' h);have aI:=Aa (Cj p m ml);have aE:=Aa (show B9 p m ml=0∨B9 p m ml=1 by unfold B9;split <;> simp);clear aP hv z3;go_enter Tryz.func145,Tryz.ntmps145
 go_wp2_with fail
 try simp only[aJ]
 generalize w.alloc (.cells #[.int .i64 p,.int .i64 m,mv] 24)=wA at *;have a0:(wA.alloc (.cells #[.int .i64 cols,.slice za rows.length zc] 137)).cell? ⟨xb+1,0,none⟩=some (.int .i64 cols):=by rw[<-aH];simp
 have a1:(wA.alloc (.cells #[.int .i64 cols,.slice za rows.length zc] 137)).cell? ⟨xb+1,1,none⟩=some (.slice za rows.length zc):=by rw[<-aH];simp
 have eA:Ex wA (wA.alloc (.cells #[.int .i64 cols,.slice za rows.length zc] 137)):=(Ex.refl _).alloc _;generalize wA.alloc (.cells #[.int .i64 cols,.slice za rows.length zc] 137)=wB at *;have b0:=eA.cell g0;have b1:=eA.cell g1;have b2:=eA.cell g2;have eB:=e0.trans eA;clear g0 g1 g2 e0 eA aH aJ wA;refine(aT.o wB (aV.o.ex eB)).mono ?_;rintro r w4⟨rfl,aD⟩;have c0:=aD.cell b0;have c1:=aD.cell b1;have c2:=aD.cell b2;have c3:=aD.cell a0;have c4:=aD.cell a1;have aC:=Aa (eB.trans aD);clear b0 b1 b2 a0 a1 aD eB;by_cases h0:B9 p m ml=0
 .obtain⟨pn,mn,rfl,rfl,aK,aO,aQ⟩:=aI.o.1 h0;have aW:=Aa (show FX pn mn ml from⟨pn,mn,rfl,rfl,aK,aO,aQ⟩);have aY:=Aa (fun w' l v (h:Aj w' v l)=>H7 (mv:=mv) w' aK l v h);have aB:=Aa (show ∀e,e=BV (pn^mn) cols rows->Lx pn mn ml cols rows e from fun e h=> .inl ⟨pn,mn,rfl,rfl,aW.o,h⟩);have HE:=Aa (show BV (pn^mn) cols rows=if cols<0∨256<cols∨256<(rows.length:Int) then 3
 else if (rows.all fun r=>decide ((r.length:Int)=cols))=true then(if (rows.all fun r=>B6 (pn^mn) r==0)=true then 0 else 2) else 3 from rfl)
  rw[h0];clear h0 aK aO aQ aI aE;by_cases h:cols<0∨256<cols∨256<(rows.length:Int)
  .have HR:=Aa (aB.o 3 (by rw[HE.o,if_pos h]));have hc:cols<0∨(0<=cols/\256<cols)∨(0<=cols/\cols<=256/\256<(rows.length:Int)):=by omega
   clear h HE;rcases hc with hc|⟨h1,h2⟩|⟨h1,h2,h3⟩
   all_goals
    go_wp2_with fail
    go_ret;exact⟨_,rfl,HR.o,aC.o⟩
  .have h1:0<=cols:=by omega
   have h2:cols<=256:=ac;have h3:(rows.length:Int)<=256:=ac;have d1:decide (cols<0)=false:=aq;have d2:decide (256<cols)=false:=aq;have d3:decide (256<(rows.length:Int))=false:=aq;have aS:=Aa (show BV (pn^mn) cols rows=if (rows.all fun r=>decide ((r.length:Int)=cols))=true then(if (rows.all fun r=>B6 (pn^mn) r==0)=true then 0 else 2) else 3 by rw[HE.o,if_neg h]);have aU:Ex w4 w4:=Ex.refl _;clear h HE;go_wp2_with fail
   go_loopw [6] (fun i' wr=>∃i:Nat,i<=rows.length/\i'= .int .i64 i/\Hia (∀(j:Nat) (r:List Int),j<i->rows[j]?=some r->(r.length:Int)=cols)/\Ex w4 wr) (fun i' _=>rows.length-(intOf i').toNat)
   case atStart=>exact⟨0,ac,rfl,Aa (fun j x h=>ac),aU⟩
   case round=>
    clear aU;obtain⟨i,hi,rfl,aA,hx⟩:=hrel;have r0:=hx.cell c3;have r1:=hx.cell c4;by_cases hlt:i<rows.length
    .obtain⟨r,hr⟩:∃r,rows[i]?=some r:=⟨_,List.getElem?_eq_getElem hlt⟩;obtain⟨bb,o,rfl,hc⟩:=Z3.o ac;obtain⟨u,e1,hu⟩:=hc i r hr;obtain⟨ua,uc,rfl,u1,u2,u3⟩:=hu.open;have e2:=(aC.o.trans hx).cell e1;have i1:(0:Int)<=(i:Int):=by omega
     have i2:(i:Int)<(rows.length:Int):=ac;unfold maxLen at u2;by_cases hl:(r.length:Int)=cols
     .have hb:((r.length:Int) !=cols)=false:=by simpa using hl
      have HA:=Aa (show ∀(j:Nat) (s:List Int),j<i+1->rows[j]?=some s->(s.length:Int)=cols from fun j s hj hs=>by
       by_cases e:j=i
       .exact zaT
       .exact aA.o j s ac hs)
      clear hl hc e1 hu u3 hr;go_wp2_with fail
      go_quiet (fail)
      go_wp2_with fail
      go_roundw
      case rel=>exact⟨i+1,ac,by go_num,HA,hx.drewN _⟩
      case measure=>simp[intOf];omega
     .have hb:((r.length:Int) !=cols)=true:=by simpa using hl
      have HF:=Aa (aB.o 3 (by
       rw[aS.o,if_neg];intro h;have:=List.all_eq_true.1 h r (List.mem_of_getElem? hr);exact hl dv))
      clear hl hc e1 hu u3 hr;go_wp2_with fail
      go_quiet (fail)
      go_wp2_with fail
      go_ret;exact⟨_,rfl,HF.o,(aC.o.trans hx).drewN _⟩
    .obtain rfl:i=rows.length:=by omega
     have aR:=Aa (show BV (pn^mn) cols rows=if (rows.all fun r=>B6 (pn^mn) r==0)=true then 0 else 2 by
      rw[aS.o,if_pos];rw[List.all_eq_true];intro r hr;obtain⟨j,hj,e⟩:=List.getElem_of_mem hr;exact decide_eq_true (aA.o j r hj ar))
     clear aA;go_wp2_with fail
     obtain⟨wo,rfl⟩:∃wo:World,wo=wr:=⟨_,rfl⟩;clear r0 r1
     go_loopw [5,7] (fun e' i' wr=>∃i:Nat,i<=rows.length/\i'= .int .i64 i/\e'= .int .i64 0/\Hia (∀(j:Nat) (r:List Int),j<i->rows[j]?=some r->B6 (pn^mn) r=0)/\Ex w4 wr) (fun _ i' _=>rows.length-(intOf i').toNat)
     case atStart=>exact⟨0,ac,rfl,rfl,Aa (fun j x h=>ac),hx⟩
     case round=>
      clear hx;obtain⟨i,hi,rfl,rfl,aA,hx⟩:=hrel;have r0:=hx.cell c3;have r1:=hx.cell c4;have s0:=hx.cell c0;have s1:=hx.cell c1;have s2:=hx.cell c2;by_cases hlt:i<rows.length
      .obtain⟨r,hr⟩:∃r,rows[i]?=some r:=⟨_,List.getElem?_eq_getElem hlt⟩;obtain⟨bb,o,rfl,hc⟩:=Z3.o ac;obtain⟨u,e1,hu⟩:=hc i r hr;have aN:=hu.ex (aC.o.trans hx);obtain⟨ua,uc,rfl,u1,u2,u3⟩:=hu.open;have e2:=(aC.o.trans hx).cell e1;have i1:(0:Int)<=(i:Int):=by omega
       have i2:(i:Int)<(rows.length:Int):=ac;have aG:=Aa (aY.o wr.drew r _ aN);have aM:=hx.drew;unfold maxLen at u2;obtain⟨ev,aF⟩:=nA (B6 (pn^mn) r);have aL:ev=0∨ev=2:=by rw[<-aF];exact S9
       rw[aF]at aG;have HA:=Aa (show ev=0->∀(j:Nat) (s:List Int),j<i+1->rows[j]?=some s->B6 (pn^mn) s=0 from fun h0 j s hj hs=>by
        by_cases e:j=i
        .subst e;rw[hr]at hs;injection hs with hs;subst hs;rw[aF,h0]
        .exact aA.o j s ac hs)
       have HF:=Aa (show ev≠0->Lx pn mn ml cols rows 2 from fun h0=>aB.o 2 (by
        rw[aR.o,if_neg];intro h;have:=List.all_eq_true.1 h r (List.mem_of_getElem? hr);rw[aF]at this;exact h0 dv))
       clear hc e1 hu aN u3 hr aF;go_wp2_with fail
       go_region_held3 (fun w'=>w'.cell? ⟨xb,0,none⟩=some (.int .i64 pn)/\w'.cell? ⟨xb,1,none⟩=some (.int .i64 mn)/\w'.cell? ⟨xb,2,none⟩=some mv/\w'.cell? ⟨xb+1,1,none⟩=some (.slice (some ⟨bb,o,none⟩) rows.length zc)/\w'.cell? ⟨bb,o+i,none⟩=some (.slice ua r.length uc))
        (first|exact⟨s0,s1,s2,r1,e2⟩|exact⟨hx5.cell s0,hx5.cell s1,hx5.cell s2,hx5.cell r1,hx5.cell e2⟩)
        ((go_at_call 153;refine aG.o.mono ?_;rintro e w5⟨rfl,hx5⟩))
       rcases aL with h0|h0
       .subst h0;have aZ:=Aa (HA.o rfl);go_wp2_with fail
        go_roundw
        case rel=>exact⟨i+1,ac,by go_num,rfl,aZ,aM.trans hx5⟩
        case measure=>simp[intOf];omega
       .subst h0;have aX:=Aa (HF.o ac);go_wp2_with fail
        go_ret;exact⟨_,rfl,aX.o,aC.o.trans (aM.trans hx5)⟩
      .obtain rfl:i=rows.length:=by omega
       have HF:=Aa (aB.o 0 (by
        rw[aR.o,if_pos];rw[List.all_eq_true];intro r hr;obtain⟨j,hj,e⟩:=List.getElem_of_mem hr;rw[aA.o j r hj ar];rfl))
       go_wp2_with fail
       go_ret;exact⟨_,rfl,HF.o,aC.o.trans hx⟩
 .have h1:B9 p m ml=1:=by rcases aE.o with h|h;exact absurd h h0;exact h
  have HN:=Aa (show Lx p m ml cols rows 1 from .inr ⟨fun h=>h0 (aI.o.2 h),rfl⟩);rw[h1];clear h0 h1 aI aE aT;go_wp2_with fail
  go_ret;exact⟨_,rfl,HN.o,aC.o⟩
def UZ(rows:List (List Int)):Nat:=rows.length+(rows.map List.length).sum
def PU(aA:Int)(rows:List (List Int))(aB:Int):Bool:=decide (aA<=260/\(UZ rows:Int)<=aB)
theorem Jp:∀(l:List Nat) (i:Nat),(l.take i).sum<=l.sum
 | [],i=>by simp
 | x :: l,0=>by simp
 | x :: l,i+1=>by have:=Jp l i;simp;omega
theorem zcb{P:Prop}(h:P:=by
 clear HF;go_enter Tryz.func120,Tryz.ntmps120
 exact zde):P:=h
theorem TR(w:World)(aA:Int)(rows:List (List Int))(v:Value)(hv:BY w v rows)(lim:Int)(hl0:0<=lim)(hl1:lim<=100000):
  Calls Tryz.prog 120 #[.agg #[.int .i64 aA,v],.int .i64 lim] w fun r w'=>r= .returned (.bool (PU aA rows lim))/\Ex w w':=by
 obtain⟨d0,d1,e0⟩:=Dq w aA v;obtain⟨za,zc,rfl,z1,z2,z3⟩:=(hv.ex e0).open;have Z3:=Aa z3;unfold maxLen at z2;have HE:=Aa e0;clear hv z3 e0;obtain⟨F,hF⟩:=nA (PU aA rows lim);have HF:=Aa (show F=decide (aA<=260/\(UZ rows:Int)<=lim) from hF.symm);rw[hF];clear hF;by_cases h1:260<aA
 .have hF:F=false:=by rw[HF.o];exact decide_eq_false ac
  subst hF;exact zcb
 .have aB:aA<=260:=by omega
  clear h1;by_cases h2:lim<(rows.length:Int)
  .have hF:F=false:=by rw[HF.o];exact decide_eq_false (by unfold UZ;omega)
   subst hF;exact zcb
  .have h2':(rows.length:Int)<=lim:=by omega
   have b1:decide (260<aA)=false:=aq;have b2:decide (lim<(rows.length:Int))=false:=aq;clear h2;go_enter Tryz.func120,Tryz.ntmps120
   go_wp2_with fail
   generalize w.alloc (.cells #[.int .i64 aA,.slice za rows.length zc] 137)=w1 at *
   go_loopw [5,6] (fun l' i' wr=>∃(i:Nat) (l:Int),i<=rows.length/\i'= .int .i64 i/\l'= .int .i64 l/\0<=l/\l<=100000/\Hia (l=lim-rows.length-(((rows.map List.length).take i).sum:Nat))/\wr=w1) (fun _ i' _=>rows.length-(intOf i').toNat)
   case atStart=>exact⟨0,lim-rows.length,ac,rfl,by go_num,ac,ac,Aa ag,rfl⟩
   case round=>
    obtain⟨i,l,hi,rfl,rfl,l1,l2,hl,rfl⟩:=hrel;by_cases hlt:i<rows.length
    .obtain⟨r,hr⟩:∃r,rows[i]?=some r:=⟨_,List.getElem?_eq_getElem hlt⟩;have HS:=Aa (show((rows.map List.length).take (i+1)).sum=((rows.map List.length).take i).sum+r.length from by
      rw[List.take_add_one,List.getElem?_map,hr];simp)
     have HT:=Aa (Jp (rows.map List.length) (i+1));obtain⟨bb,o,rfl,hc⟩:=Z3.o ac;obtain⟨u,c1,hu⟩:=hc i r hr;obtain⟨ua,uc,rfl,u1,u2,u3⟩:=hu.open;unfold maxLen at u2;clear hc hu u3 hr;by_cases h3:l<(r.length:Int)
     .have hF:F=false:=by
       rw[HF.o];have s1:=hl.o;have s2:=HS.o;have s3:=HT.o;exact decide_eq_false (by unfold UZ;omega)
      subst hF;clear HF HS HT hl;exact zde
     .have h3':(r.length:Int)<=l:=by omega
      have HL:=Aa (show l-r.length=lim-rows.length-(((rows.map List.length).take (i+1)).sum:Nat) from by
       have s1:=hl.o;have s2:=HS.o;omega)
      clear h3 HS HT hl;go_wp2_with fail
      go_roundw
      case rel=>exact⟨i+1,_,ac,by go_num,(by first|rfl|trivial),ac,ac,HL,(by first|rfl|trivial)⟩
      case measure=>simp[intOf];omega
    .obtain rfl:i=rows.length:=by omega
     have hF:F=true:=by
      rw[HF.o];have s1:=hl.o;rw[List.take_of_length_le ag]at s1;exact decide_eq_true ⟨aB,by unfold UZ;omega⟩
     subst hF;clear hl HF;exact zde
theorem QX(w:World)(p m:Int)(mv:Value)(n:Int)(rows:List (List Int))(v:Value)(hv:BY w v rows)(aA:Int)(aD:0<=aA)(aC:aA<=100000):
  Calls Tryz.prog 61 #[.agg #[.int .i64 p,.int .i64 m,mv,.int .i64 n,v],.int .i64 aA] w fun r w'=>r= .returned (.bool (PU 0 rows aA))/\Ex w w':=by
 obtain⟨a0,a1,a2,a3,a4,ea⟩:=EH w p m mv n v;have aB:=Aa (fun (w':World) (h:Ex w w')=>TR w' 0 rows v (hv.ex h) aA aD aC);obtain⟨za,zc,rfl,-,z2,-⟩:=hv.open;have HE:=Aa ea;clear hv ea z2;obtain⟨F,hF⟩:=nA (PU 0 rows aA);rw[hF]at aB ⊢;clear hF;go_enter Tryz.func61,Tryz.ntmps61
 go_wp2_with fail
 generalize w.alloc (.cells #[.int .i64 p,.int .i64 m,mv,.int .i64 n,.slice za rows.length zc] 39)=w1 at *;refine(aB.o w1 HE.o).mono ?_;rintro e w2⟨rfl,hx⟩;have HX:=Aa (HE.o.trans hx);clear hx;exact zdd
section
open Go.Shelf
def Tryz.lays189_ren:Go.Shelf.Ren:=⟨fun | 189=>125 | 125=>178 | 257=>177 | 128=>221 | 129=>222 | 294=>212 | 295=>213 | 296=>214 | 297=>215 | 298=>216 | 299=>217 | 216=>218 | 300=>219 | 301=>220 | 328=>255 | 329=>256 | 330=>257 | 331=>258 | 332=>259 | 215=>260 | 343=>267|n=>n,fun | 28=>22 | 3=>3 | 46=>146 | 0=>0 | 51=>91 | 53=>77 | 4=>4 | 183=>248 | 182=>247 | 131=>253 | 5=>5 | 9=>9 | 218=>278 | 222=>282 | 228=>289 | 229=>203|n=>n,fun|n=>n⟩
theorem Tryz.lays189:Go.Proofs.Lays.n189 Tryz.prog Tryz.lays189_ren:= {
 mixed:=ah
 f125:=Tryz.func178.trans (congrArg some ah)
 f128:=Tryz.func221.trans (congrArg some ah)
 f129:=Tryz.func222.trans (congrArg some ah)
 f189:=Tryz.func125.trans (congrArg some ah)
 f215:=Tryz.func260.trans (congrArg some ah)
 f216:=Tryz.func218.trans (congrArg some ah)
 f257:=Tryz.func177.trans (congrArg some ah)
 f294:=Tryz.func212.trans (congrArg some ah)
 f295:=Tryz.func213.trans (congrArg some ah)
 f296:=Tryz.func214.trans (congrArg some ah)
 f297:=Tryz.func215.trans (congrArg some ah)
 f298:=Tryz.func216.trans (congrArg some ah)
 f299:=Tryz.func217.trans (congrArg some ah)
 f300:=Tryz.func219.trans (congrArg some ah)
 f301:=Tryz.func220.trans (congrArg some ah)
 f328:=Tryz.func255.trans (congrArg some ah)
 f329:=Tryz.func256.trans (congrArg some ah)
 f330:=Tryz.func257.trans (congrArg some ah)
 f331:=Tryz.func258.trans (congrArg some ah)
 f332:=Tryz.func259.trans (congrArg some ah)
 f343:=Tryz.func267.trans (congrArg some ah)
 t0:=Tryz.underlying0
 a0:=Tryz.isAgg0
 z0:=Tryz.sizeOf0
 v0:=Tryz.zeroValue0
 t3:=Tryz.underlying3
 a3:=Tryz.isAgg3
 z3:=Tryz.sizeOf3
 v3:=Tryz.zeroValue3
 t4:=Tryz.underlying4
 a4:=Tryz.isAgg4
 z4:=Tryz.sizeOf4
 v4:=Tryz.zeroValue4
 t5:=Tryz.underlying5
 a5:=Tryz.isAgg5
 z5:=Tryz.sizeOf5
 v5:=Tryz.zeroValue5
 t9:=Tryz.underlying9
 a9:=Tryz.isAgg9
 z9:=Tryz.sizeOf9
 v9:=Tryz.zeroValue9
 t28:=Tryz.underlying22
 a28:=Tryz.isAgg22
 z28:=Tryz.sizeOf22
 v28:=Tryz.zeroValue22
 t46:=Tryz.underlying146
 a46:=Tryz.isAgg146
 z46:=Tryz.sizeOf146
 v46:=Tryz.zeroValue146
 t51:=Tryz.underlying91
 a51:=Tryz.isAgg91
 z51:=Tryz.sizeOf91
 v51:=Tryz.zeroValue91
 t53:=Tryz.underlying77
 a53:=Tryz.isAgg77
 z53:=Tryz.sizeOf77
 v53:=Tryz.zeroValue77
 t131:=Tryz.underlying253
 a131:=Tryz.isAgg253
 z131:=Tryz.sizeOf253
 v131:=Tryz.zeroValue253
 t182:=Tryz.underlying247
 a182:=Tryz.isAgg247
 z182:=Tryz.sizeOf247
 v182:=Tryz.zeroValue247
 t183:=Tryz.underlying248
 a183:=Tryz.isAgg248
 z183:=Tryz.sizeOf248
 v183:=Tryz.zeroValue248
 t218:=Tryz.underlying278
 a218:=Tryz.isAgg278
 z218:=Tryz.sizeOf278
 v218:=Tryz.zeroValue278
 t222:=Tryz.underlying282
 a222:=Tryz.isAgg282
 z222:=Tryz.sizeOf282
 v222:=Tryz.zeroValue282
 t228:=Tryz.underlying289
 a228:=Tryz.isAgg289
 z228:=Tryz.sizeOf289
 v228:=Tryz.zeroValue289
 t229:=Tryz.underlying203
 a229:=Tryz.isAgg203
 z229:=Tryz.sizeOf203
 v229:=Tryz.zeroValue203 }
open Go.Sort Go.RowKit in
theorem Tryz.slices_Sort_int (blk aA cap:Nat) (zs:List Int) (w:World) (hH:Holds (Value.int .i64) w blk aA zs.toArray) (aB:blk<w.heap.size) (aC:zs.length<4611686018427387904):
  Calls Tryz.prog 125 #[.slice (some ⟨blk,aA,none⟩) zs.length cap] w fun e w'=>
   e= .returned (.tuple #[])/\∃n os,w'=grow (putRow (Value.int .i64) (Sort.ahead w n) blk aA (zs.mergeSort fun x y=>decide (x<=y)).toArray) os:=Any.slices_Sort_int Tryz.lays189 blk aA cap zs w hH aB aC
end
end Go.Proofs.YtehieobniamagaaGreat
