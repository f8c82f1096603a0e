/- Slices of slices; the reference's SameInts, SameRows, Few; slices.Index and Clone at Aj. -/
import Derived.Laws.EntriesVeiled
import Derived.Test.YtehieobniamagaaGreatZi21
namespace Go.Proofs.YtehieobniamagaaGreat
open List renaming getElem?_eq_getElem→γ,range→ξ,mem_range→κ,length_pos_iff→γy,take_add_one→γd,map_append→δe,getElem_mem→Ϙ,length→ηw,map_congr_left→γl,getD_eq_getElem?_getD→δ,mem_cons_self→Θ,not_mem_nil→γx,pairwise_cons→ηg,mem_cons→ϒ,mem_cons_of_mem→ω,filter→ιh,getElem?_eq_some_iff→θ,mem_singleton→ϙ,getElem?_append_left→ο,mem_of_getElem?→ι,mem_append_left→δl,getElem_of_mem→χ
open Classical renaming byContradiction→Γ
open Go.World renaming block_lt_of_cell?→η
open Go.RowKit
set_option linter.all false
set_option maxRecDepth 100000
set_option maxHeartbeats 8000000
theorem zaL{P:Prop}(h:P:=by
 obtain rfl:i=n:=by omega
 have HF:=Aa (Cf aA.o);go_wp2_with fail
 go_ret;exact⟨Ai HF.o.symm,q,rfl⟩):P:=h
theorem zbX{P:Prop}(h:P:=by
 go_roundg (n-(i+1))
 case measure=>omega
 case rel=>exact⟨i+1,q+q',by omega,by omega,by go_num,rfl,HA⟩):P:=h
theorem MC(w:World)(p0:Value)(v:Value)(n:Nat)(us:List Value)(hv:Sl w v n 1 us)(pr:Nat->Bool)
  (hp:∀(q i:Nat) (u:Value),us[i]?=some u->Calls Tryz.prog 117 #[u,p0] (w.drewN q) fun e w'=>e= .returned (.bool (pr i))/\∃q',w'=(w.drewN q).drewN q'):
  Calls Tryz.prog 169 #[v,.func (.func 117) #[] #[p0]] w fun r w'=>r= .returned (.int .i64 (CG pr n))/\∃q,w'=w.drewN q:=by
 obtain⟨hl,a,cap,rfl,s1,s2,s3⟩:=hv;rw[Nat.mul_one]at hl;have S3:=Aa s3;have HP:=Aa hp;have HL:=Aa hl;unfold maxLen at s2;clear s3 hp hl;go_enter Tryz.func169,Tryz.ntmps169
 go_wp2_with fail
 go_loopg [5,8] n (fun gg _ i' wr=>∃i q:Nat,i<=n/\n-i<=gg/\i'= .int .i64 i/\wr=w.drewN q/\Hia (∀j,j<i->pr j=false))
 case atStart=>exact⟨0,0,ac,ac,rfl,rfl,Aa (fun j hj=>ac)⟩
 case round=>
  obtain⟨i,q,hi,hg,rfl,rfl,aA⟩:=hrel;by_cases hlt:i<n
  .obtain⟨u,hu⟩:∃u,us[i]?=some u:=⟨_,γ bc⟩;obtain⟨bb,o,rfl,hc⟩:=S3.o ac;have c1:=hc i u hu;have HC:=Aa (HP.o q i u hu);have hlt':(i:Int)<(n:Int):=by omega
   clear hc hu
   cases hb:pr i with
   | true=>
    rw[hb]at HC;have HF:=Aa (CO hlt hb aA.o);clear hb;go_wp2_with (go_at_call 117;refine HC.o.mono ?_;rintro e w'⟨rfl,q',rfl⟩)
    go_ret;exact⟨Ai HF.o.symm,q+q',rfl⟩
   | false=>
    rw[hb]at HC;have HA:Hia (∀j,j<i+1->pr j=false):=Aa (fun j hj=>by
     by_cases e:j=i
     .subst e;exact hb
     .exact aA.o j ac)
    clear hb;go_wp2_with (go_at_call 117;refine HC.o.mono ?_;rintro e w'⟨rfl,q',rfl⟩)
    exact zbX
  .exact zaL
theorem Jv(w:World)(p0:Value)(v:Value)(n:Nat)(us:List Value)(hv:Sl w v n 1 us)(pr:Nat->Bool)
  (hp:∀(q i:Nat) (u:Value),us[i]?=some u->Calls Tryz.prog 117 #[u,p0] (w.drewN q) fun e w'=>e= .returned (.bool (pr i))/\∃q',w'=(w.drewN q).drewN q'):
  Calls Tryz.prog 116 #[v,.func (.func 117) #[] #[p0]] w fun r w'=>r= .returned (.bool ((ξ n).any pr))/\∃q,w'=w.drewN q:=by
 have HC:=Aa (MC w p0 v n us hv pr hp);have HB:=Aa (Eh pr n);obtain⟨z,hz⟩:=nA (CG pr n);rw[hz]at HC HB;clear hz hp hv;go_enter Tryz.func116,Tryz.ntmps116
 go_wp2_with (go_at_call 169;refine HC.o.mono ?_;rintro e w'⟨rfl,q,rfl⟩)
 go_ret;exact⟨Aq HB.o.symm,q,rfl⟩
theorem MG(w:World)(p0:Value)(v:Value)(n:Nat)(us:List Value)(hv:Sl w v n 1 us)(pr:Nat->Bool)
  (hp:∀(q i:Nat) (u:Value),us[i]?=some u->Calls Tryz.prog 176 #[u,p0] (w.drewN q) fun e w'=>e= .returned (.bool (pr i))/\∃q',w'=(w.drewN q).drewN q'):
  Calls Tryz.prog 129 #[v,.func (.func 176) #[] #[p0]] w fun r w'=>r= .returned (.int .i64 (CG pr n))/\∃q,w'=w.drewN q:=by
 obtain⟨hl,a,cap,rfl,s1,s2,s3⟩:=hv;rw[Nat.mul_one]at hl;have S3:=Aa s3;have HP:=Aa hp;have HL:=Aa hl;unfold maxLen at s2;clear s3 hp hl;go_enter Tryz.func129,Tryz.ntmps129
 go_wp2_with fail
 go_loopg [5,8] n (fun gg _ i' wr=>∃i q:Nat,i<=n/\n-i<=gg/\i'= .int .i64 i/\wr=w.drewN q/\Hia (∀j,j<i->pr j=false))
 case atStart=>exact⟨0,0,ac,ac,rfl,rfl,Aa (fun j hj=>ac)⟩
 case round=>
  obtain⟨i,q,hi,hg,rfl,rfl,aA⟩:=hrel;by_cases hlt:i<n
  .obtain⟨u,hu⟩:∃u,us[i]?=some u:=⟨_,γ bc⟩;obtain⟨bb,o,rfl,hc⟩:=S3.o ac;have c1:=hc i u hu;have HC:=Aa (HP.o q i u hu);have hlt':(i:Int)<(n:Int):=by omega
   clear hc hu
   cases hb:pr i with
   | true=>
    rw[hb]at HC;have HF:=Aa (CO hlt hb aA.o);clear hb;go_wp2_with (go_at_call 176;refine HC.o.mono ?_;rintro e w'⟨rfl,q',rfl⟩)
    go_ret;exact⟨Ai HF.o.symm,q+q',rfl⟩
   | false=>
    rw[hb]at HC;have HA:Hia (∀j,j<i+1->pr j=false):=Aa (fun j hj=>by
     by_cases e:j=i
     .subst e;exact hb
     .exact aA.o j ac)
    clear hb;go_wp2_with (go_at_call 176;refine HC.o.mono ?_;rintro e w'⟨rfl,q',rfl⟩)
    exact zbX
  .exact zaL
theorem Jw(w:World)(p0:Value)(v:Value)(n:Nat)(us:List Value)(hv:Sl w v n 1 us)(pr:Nat->Bool)
  (hp:∀(q i:Nat) (u:Value),us[i]?=some u->Calls Tryz.prog 176 #[u,p0] (w.drewN q) fun e w'=>e= .returned (.bool (pr i))/\∃q',w'=(w.drewN q).drewN q'):
  Calls Tryz.prog 71 #[v,.func (.func 176) #[] #[p0]] w fun r w'=>r= .returned (.bool ((ξ n).any pr))/\∃q,w'=w.drewN q:=by
 have HC:=Aa (MG w p0 v n us hv pr hp);have HB:=Aa (Eh pr n);obtain⟨z,hz⟩:=nA (CG pr n);rw[hz]at HC HB;clear hz hp hv;go_enter Tryz.func71,Tryz.ntmps71
 go_wp2_with (go_at_call 129;refine HC.o.mono ?_;rintro e w'⟨rfl,q,rfl⟩)
 go_ret;exact⟨Aq HB.o.symm,q,rfl⟩
theorem D9:∀(n:Nat) (f:Nat->Nat),(∀i,i<n->f i<n)->(∀i j,i<n->j<n->f i=f j->i=j)->∀y,y<n->∃x,x<n/\f x=y
 | 0,f,_,_,y,hy=>absurd hy (by omega)
 | n+1,f,h1,h2,y,hy=>by
  have hn:=h1 n ac;by_cases hm:f n=n
  .by_cases hyn:y=n
   .exact⟨n,ac,ac⟩
   .obtain⟨x,hx,e⟩:=D9 n f (fun i hi=>by
     have h3:=h1 i ac;have h4:f i≠n:=fun e=>by
      have:=h2 i n ac ac ac;omega
     omega) (fun i j hi hj e=>h2 i j ac ac e) y ac
    exact⟨x,ac,e⟩
  .have aA:=D9 n (fun i=>if f i=n then f n else f i) (fun i hi=>by
     split
     .omega
     .have:=h1 i ac;omega) (fun i j hi hj e=>by
     split at e <;> split at e
     .exact h2 i j ac ac ac
     .have:=h2 n j ac ac e;omega
     .have:=h2 i n ac ac e;omega
     .exact h2 i j ac ac e)
   by_cases hy1:y=f n
   .exact⟨n,ac,hy1.symm⟩
   .by_cases hyn:y=n
    .obtain⟨x,hx,e⟩:=aA (f n) ac;split at e
     .rename_i h;exact⟨x,ac,ac⟩
     .have:=h2 x n ac ac e;omega
    .obtain⟨x,hx,e⟩:=aA y ac;split at e
     .omega
     .exact⟨x,ac,e⟩
structure Bo(n:Nat)(f:Nat->Nat):Prop where
 lt:∀i,i<n->f i<n
 off:∀i,n<=i->f i=i
 inj:∀i j,f i=f j->i=j
def Ep:Nat->Nat:=fun i=>i
def Ap(f g:Nat->Nat):Nat->Nat:=fun i=>g (f i)
def A8(n:Nat)(f:Nat->Nat):Nat->Nat:=fun j=>if j<n then((ξ n).find? fun i=>f i==j).getD 0 else j
theorem Fe(n:Nat):Bo n Ep:=⟨fun _ h=>h,fun _ _=>rfl,fun _ _ h=>h⟩
theorem Bo.of_inj{n:Nat}{f:Nat->Nat}(h1:∀i,i<n->f i<n)(h2:∀i,n<=i->f i=i)(h3:∀i j,i<n->j<n->f i=f j->i=j):Bo n f:=
 ⟨h1,h2,fun i j e=>by
  by_cases hi:i<n <;> by_cases hj:j<n
  .exact h3 i j hi hj e
  .have:=h1 i hi;have:=h2 j ac;omega
  .have:=h1 j hj;have:=h2 i ac;omega
  .have:=h2 i ac;have:=h2 j ac;omega⟩
theorem Bo.comp{n:Nat}{f g:Nat->Nat}(hf:Bo n f)(hg:Bo n g):Bo n (Ap f g):=
 ⟨fun i hi=>hg.lt _ (hf.lt i hi),fun i hi=>by show g (f i)=i;rw[hf.off i hi,hg.off i hi],fun i j e=>hf.inj i j (hg.inj _ _ e)⟩
theorem Bo.surj{n:Nat}{f:Nat->Nat}(hf:Bo n f){y:Nat}(hy:y<n):∃x,x<n/\f x=y:=
 D9 n f hf.lt (fun i j _ _ e=>hf.inj i j e) y hy
theorem Bo.lt_iff{n:Nat}{f:Nat->Nat}(hf:Bo n f)(i:Nat):f i<n↔i<n:=
 ⟨fun h=>by
  by_cases hi:i<n
  .exact hi
  .have:=hf.off i ac;omega,hf.lt i⟩
theorem Bo.inv_l{n:Nat}{f:Nat->Nat}(hf:Bo n f)(i:Nat):A8 n f (f i)=i:=by
 unfold A8;by_cases hi:i<n
 .rw[if_pos (hf.lt i hi)]
  cases h:(ξ n).find? fun k=>f k==f i with
  | none=>
   have:=List.find?_eq_none.1 h i (κ.2 hi);simp at this
  | some k=>
   have:=List.find?_some h;exact hf.inj k i ep
 .rw[if_neg (by rw[hf.off i ac];exact hi),hf.off i ac]
theorem Bo.inv_r{n:Nat}{f:Nat->Nat}(hf:Bo n f)(j:Nat):f (A8 n f j)=j:=by
 by_cases hj:j<n
 .obtain⟨x,hx,rfl⟩:=hf.surj hj;rw[hf.inv_l]
 .have h1:A8 n f j=j:=by unfold A8;rw[if_neg hj]
  rw[h1,hf.off j ac]
theorem Bo.inv{n:Nat}{f:Nat->Nat}(hf:Bo n f):Bo n (A8 n f):=
 ⟨fun i hi=>by
   have:=(hf.lt_iff (A8 n f i)).1 (by rw[hf.inv_r];exact hi);exact this,fun i hi=>by unfold A8;rw[if_neg ac],fun i j e=>by
   have:=congrArg f e
   rwa[hf.inv_r,hf.inv_r]at this⟩
theorem ET(f g h:Nat->Nat):Ap (Ap f g) h=Ap f (Ap g h):=rfl
theorem Bo.then_inv{n:Nat}{f:Nat->Nat}(hf:Bo n f):Ap f (A8 n f)=Ep:=funext fun i=>hf.inv_l i
theorem Bo.inv_then{n:Nat}{f:Nat->Nat}(hf:Bo n f):Ap (A8 n f) f=Ep:=funext fun i=>hf.inv_r i
theorem Bo.inv_unique{n:Nat}{f g:Nat->Nat}(hf:Bo n f)(h:Ap f g=Ep):g=A8 n f:=by
 have:Ap (A8 n f) (Ap f g)=Ap (A8 n f) Ep:=by rw[h]
 rw[<-ET,hf.inv_then]at this;exact this
theorem Ox(n:Nat):A8 n Ep=Ep:=((Fe n).inv_unique rfl).symm
theorem Bo.cancel{n:Nat}{f r:Nat->Nat}(hr:Bo n r):Ap (Ap f (A8 n r)) r=f:=by
 rw[ET,hr.inv_then];rfl
theorem Iv{n:Nat}{f g:Nat->Nat}(hf:Bo n f)(hg:Bo n g)(h:∀i,i<n->f i=g i):f=g:=
 funext fun i=>by
  by_cases hi:i<n
  .exact h i hi
  .rw[hf.off i ac,hg.off i ac]
def KT(f:Nat->Nat):Nat->Nat->Nat
 | 0=>Ep
 | k+1=>Ap (KT f k) f
theorem N7(f:Nat->Nat)(a b:Nat):KT f (a+b)=Ap (KT f a) (KT f b):=by
 induction b with
 | zero=>rfl
 | succ b ih=>show Ap (KT f (a+b)) f=_;rw[ih];rfl
theorem Lf{n:Nat}{f:Nat->Nat}(hf:Bo n f):∀k,Bo n (KT f k)
 | 0=>Fe n
 | k+1=>(Lf hf k).comp hf
theorem JJ{f:Nat->Nat}{i k:Nat}(h:KT f k i=i):∀m,KT f (k*m) i=i
 | 0=>rfl
 | m+1=>by
  rw[Nat.mul_succ,N7];show KT f k (KT f (k*m) i)=i
  rw[JJ h m,h]
theorem Bo.back{n:Nat}{f:Nat->Nat}(hf:Bo n f){i:Nat}(hi:i<n):∃k,1<=k/\k<=n/\KT f k i=i:=by
 have aE:¬∀a b,a<n+1->b<n+1->KT f a i=KT f b i->a=b:=fun aA=>by
  obtain⟨x,hx,e⟩:=D9 (n+1) (fun a=>KT f a i) (fun a _=>by have:=(Lf hf a).lt i hi;omega) aA n ac;have:=(Lf hf x).lt i hi;omega
 have aD:∃a b,a<b/\b<n+1/\KT f a i=KT f b i:=by
  apply Γ;intro aB;refine aE fun a b ha hb e=>?_;apply Γ;intro aC;rcases Nat.lt_or_gt_of_ne aC with h|h
  .exact aB ⟨a,b,h,hb,e⟩
  .exact aB ⟨b,a,h,ha,e.symm⟩
 obtain⟨a,b,aC,hb,e⟩:=aD;refine⟨b-a,ac,ac,?_⟩;have h1:KT f b=Ap (KT f (b-a)) (KT f a):=by rw[<-N7];congr 1;omega
 rw[h1]at e;exact((Lf hf a).inj _ _ e).symm
def QG:Nat->Nat
 | 0=>1
 | k+1=>(k+1)*QG k
theorem QD:∀k,1<=QG k
 | 0=>Nat.le_refl _
 | k+1=>Nat.mul_pos (by omega) (QD k)
theorem QE:∀n k,1<=k->k<=n->k ∣ QG n
 | 0,k,h1,h2=>by omega
 | n+1,k,h1,h2=>by
  by_cases h:k=n+1
  .subst h;exact Nat.dvd_mul_right _ _
  .exact Nat.dvd_trans (QE n k h1 (by omega)) (Nat.dvd_mul_left _ _)
theorem Bo.pw_fac{n:Nat}{f:Nat->Nat}(hf:Bo n f):KT f (QG n)=Ep:=by
 refine Iv (Lf hf _) (Fe n) fun i hi=>?_;obtain⟨k,h1,h2,h3⟩:=hf.back hi;obtain⟨m,hm⟩:=QE n k h1 h2;rw[hm];exact JJ h3 m
inductive Gn(S:List (Nat->Nat)):(Nat->Nat)->Prop
 | one:Gn S Ep
 | step {f g:Nat->Nat}:Gn S f->g∈S->Gn S (Ap f g)
structure Yw(n:Nat)(H:(Nat->Nat)->Prop):Prop where
 one:H Ep
 mul:∀f g,H f->H g->H (Ap f g)
 inv:∀f,H f->H (A8 n f)
 isP:∀f,H f->Bo n f
theorem Gn.mul{S:List (Nat->Nat)}{f g:Nat->Nat}(hf:Gn S f)(hg:Gn S g):Gn S (Ap f g):=by
 induction hg with
 | one=>exact hf
 | step _ h ih=>exact ih.step h
theorem Gn.of{S:List (Nat->Nat)}{g:Nat->Nat}(h:g∈S):Gn S g:=Gn.one.step h
theorem Gn.isP{n:Nat}{S:List (Nat->Nat)}(hS:∀s∈S,Bo n s){f:Nat->Nat}(h:Gn S f):Bo n f:=by
 induction h with
 | one=>exact Fe n
 | step _ h ih=>exact ih.comp (hS _ h)
theorem Gn.pw{S:List (Nat->Nat)}{f:Nat->Nat}(h:Gn S f):∀k,Gn S (KT f k)
 | 0=>Gn.one
 | k+1=>(h.pw k).mul h
theorem Gn.inv{n:Nat}{S:List (Nat->Nat)}(hS:∀s∈S,Bo n s){f:Nat->Nat}(h:Gn S f):Gn S (A8 n f):=by
 have hf:=h.isP hS;have h1:Ap f (KT f (QG n-1))=Ep:=by
  have:KT f (1+(QG n-1))=Ep:=by
   rw[show 1+(QG n-1)=QG n from by have:=QD n;omega];exact hf.pw_fac
  rw[N7]at this;exact this
 rw[<-hf.inv_unique h1];exact h.pw _
theorem Gn.grp{n:Nat}{S:List (Nat->Nat)}(hS:∀s∈S,Bo n s):Yw n (Gn S):=
 ⟨.one,fun _ _=> .mul,fun _=> .inv hS,fun _ h=>Gn.isP hS h⟩
theorem Gn.sub{n:Nat}{S:List (Nat->Nat)}{H:(Nat->Nat)->Prop}(hH:Yw n H)(hS:∀s∈S,H s){f:Nat->Nat}(h:Gn S f):H f:=by
 induction h with
 | one=>exact hH.one
 | step _ h ih=>exact hH.mul _ _ ih (hS _ h)
theorem Gn.mono{S T:List (Nat->Nat)}(hS:∀s∈S,Gn T s){f:Nat->Nat}(h:Gn S f):Gn T f:=by
 induction h with
 | one=>exact .one
 | step _ h ih=>exact ih.mul (hS _ h)
def AU(b:Nat)(f:Nat->Nat):Prop:=∀i,i<b->f i=i
theorem Hz(b:Nat):AU b Ep:=fun _ _=>rfl
theorem AU.comp{b:Nat}{f g:Nat->Nat}(hf:AU b f)(hg:AU b g):AU b (Ap f g):=fun i hi=>by
 show g (f i)=i;rw[hf i hi,hg i hi]
theorem AU.inv{n b:Nat}{f:Nat->Nat}(hP:Bo n f)(hf:AU b f):AU b (A8 n f):=fun i hi=>by
 have:=hP.inv_l i;rw[hf i hi]at this;exact this
theorem AU.all{n:Nat}{f:Nat->Nat}(hP:Bo n f)(hf:AU n f):f=Ep:=Iv hP (Fe n) hf
theorem AU.div{n b:Nat}{f r:Nat->Nat}(hr:Bo n r)(hf:AU b f)(aA:AU b r)(e:r b=f b):AU (b+1) (Ap f (A8 n r)):=fun i hi=>by
 by_cases h:i=b
 .subst h;show A8 n r (f i)=i;rw[<-e];exact hr.inv_l i
 .exact AU.comp hf (AU.inv hr aA) i ac
theorem boxRf(w:World)(ev:Value):(w.alloc (.cells #[ev] 94)).cell? (w.heap.size,0)=some ev:=ag
def flS(c d:AX)(es:List Rf)(tl sl:List Int):Nat × Int:=flF c.p.toNat c.m.toNat c.ml c.rows d.rows c.n.toNat es (c.n.toNat-tl.length) 0 tl sl
def ckE(E:Int)(R:Nat × Int)(es:List Rf):Int:=if E≠0 then E else if R.2=0/\R.1<es.length then 13 else R.2
theorem He(w:World)(c d:AX)(m1 m2 v1 v2:Value)(hc:c.at w m1 v1)(hd:d.at w m2 v2)(tl sl:List Int)(tv sv:Value)(ht:Ak w tv tl)(hs:Ak w sv sl)(es:List Rf)(ev:Value)(hr:Yt w ev es):
  Calls Tryz.prog 133 #[c.arg m1 v1,d.arg m2 v2,.agg #[tv,sv],.agg #[ev]] w fun r w'=>(∃e1 e2:Int,Bw c.p c.m c.ml c.n c.rows e1/\(e1=0->Bw d.p d.m d.ml d.n d.rows e2)/\r= .returned (.int .i64 (ckE (F5 e1 e2 (CE c.p c.m c.ml d.p d.m d.ml) c.n d.n tl sl (c.p.toNat^c.m.toNat)) (flS c d es tl sl) es)))/\Ex w w':=by
 obtain⟨c0,c1,c2,c3,c4⟩:=C8 w c m1 v1;obtain⟨d0,d1,d2,d3,d4⟩:=C8 (w.alloc (c.obj m1 v1)) d m2 v2;obtain⟨b0,b1,e3,aY⟩:=AQ ((w.alloc (c.obj m1 v1)).alloc (d.obj m2 v2)) tv sv;have aI:=boxRf (((w.alloc (c.obj m1 v1)).alloc (d.obj m2 v2)).alloc (.cells #[tv,sv] 71)) ev;have aZ:(w.alloc (c.obj m1 v1)).heap.size=w.heap.size+1:=ag;have aO:((w.alloc (c.obj m1 v1)).alloc (d.obj m2 v2)).heap.size=w.heap.size+1+1:=ag;have e1:=AF w (c.obj m1 v1);have e2:=AF (w.alloc (c.obj m1 v1)) (d.obj m2 v2);have e4:=AF (((w.alloc (c.obj m1 v1)).alloc (d.obj m2 v2)).alloc (.cells #[tv,sv] 71)) (.cells #[ev] 94);rw[aY,aO]at aI;rw[aZ]at d0 d1 d2 d3 d4;rw[aO]at b0 b1;have aC:=e1.trans (e2.trans (e3.trans e4));replace c0:=(e2.trans (e3.trans e4)).cell c0;replace c1:=(e2.trans (e3.trans e4)).cell c1;replace c2:=(e2.trans (e3.trans e4)).cell c2;replace c3:=(e2.trans (e3.trans e4)).cell c3;replace c4:=(e2.trans (e3.trans e4)).cell c4;replace d0:=(e3.trans e4).cell d0;replace d1:=(e3.trans e4).cell d1;replace d2:=(e3.trans e4).cell d2;replace d3:=(e3.trans e4).cell d3;replace d4:=(e3.trans e4).cell d4;replace b0:=e4.cell b0;replace b1:=e4.cell b1;obtain⟨B,hB⟩:=nA w.heap.size;rw[hB]at c0 c1 c2 c3 c4 d0 d1 d2 d3 d4 b0 b1 aI;have aL:=Aa (IU _ c d m1 m2 v1 v2 (hc.ex aC) (hd.ex aC) tl sl tv sv (ht.ex aC) (hs.ex aC));obtain⟨ta,tc,rfl,-,t2,-⟩:=ht.open;obtain⟨sa,sc,rfl,-,s2,-⟩:=hs.open;obtain⟨x1,y1,rfl,-,z1,-⟩:=hc.g.open;obtain⟨x2,y2,rfl,-,z2,-⟩:=hd.g.open;obtain⟨x3,y3,rfl,-,z3,-⟩:=hc.m.open;obtain⟨x4,y4,rfl,-,z4,-⟩:=hd.m.open;unfold maxLen at t2 s2 z1 z2 z3 z4;obtain⟨HX,HC,HD,HT,HS,HR,aS⟩:=To aC hc hd ht hs hr aI;obtain⟨ra,rc,rfl,bJ,-,-⟩:=PB hr;unfold maxLen at bJ;have HWB:=Aa hB;clear hc hd ht hs hr e1 e2 e3 e4 aZ aO aY aC aI;unfold AX.arg at aL ⊢;go_enter Tryz.func133,Tryz.ntmps133
 unfold AX.obj at c0 c1 c2 c3 c4 d0 d1 d2 d3 d4 b0 b1 HX aS aL;go_upto_region 1 with fail
 try simp only[hB]
 clear hB;generalize (((w.alloc (.cells #[c.p,c.m,(x3,c.ml.length,y3),c.n,(x1,c.rows.length,y1)] 39)).alloc (.cells #[d.p,d.m,(x4,d.ml.length,y4),d.n,(x2,d.rows.length,y2)] 39)).alloc (.cells #[(ta,tl.length,tc),(sa,sl.length,sc)] 71)).alloc (.cells #[(ra,es.length,rc)] 94)=w1 at *;have B0:=Aa b0;have B1:=Aa b1;go_wp2_with fail
 refine aL.o.mono ?_;rintro e w3⟨ho,bA⟩;have aK:=Aa bA;obtain⟨e1,e2,bC,aF,ho⟩:=ho;have aM:=Aa bC;have bE:=Aa aF;clear c0 c1 c2 c3 c4 d0 d1 d2 d3 d4 bA bC aF aL b0 b1;obtain⟨E,hE⟩:=nA (F5 e1 e2 (CE c.p c.m c.ml d.p d.m d.ml) c.n d.n tl sl (c.p.toNat^c.m.toNat));rw[hE]at ho;have HE:=Aa hE;rcases ho with⟨h0,ptr,rfl⟩|⟨h0,w2,A,b,x0,pn,mn,nn,hp,hm,hnn,rfl,hx2,hg,hx01,hx02,hA,hx23,hpr,h11,hf11⟩
 .have hb0:(E !=0)=true:=by simpa using h0
  have H0:=Aa h0;clear h0 hE;go_wp2_with fail
  go_ret;refine⟨⟨e1,e2,aM.o,bE.o,?_⟩,(HX.o.trans aK.o).alloc _⟩;rw[HE.o];unfold ckE;rw[if_pos H0.o];rfl
 .subst h0;obtain⟨k1,k2,k3,k4,k5,k6,k7,k8,k9⟩:=Rn hE;subst k1;have aF:=bE.o rfl;subst k2;obtain⟨aX,aV⟩:=C6 aM.o;obtain⟨aW,aU⟩:=C6 aF;obtain⟨-,bI,bH⟩:=DH aM.o;obtain⟨SB,aJ⟩:∃B,w3.heap.size=B:=⟨_,rfl⟩;have aA:=HX.o.trans hx2;have b0:=aK.o.cell B0.o;have b1:=aK.o.cell B1.o;have r0:=aK.o.cell aS.o;have HK:=Aa (show c.n=d.n/\tl.length=sl.length/\(tl.length:Int)<=c.n/\BW tl c.n=true from⟨k4,k5,k6,k7⟩);have aB:=Aa (show c.p=pn/\c.m=mn/\c.n=nn from⟨hp,hm,hnn⟩);clear aS hp hm hnn k3 k4 k5 k6 k7 k8 k9 hE;go_upto_region 7 with fail
  have f1:=AF w3 (.cells #[(A,0)] 186);have f2:=AF (w3.alloc (.cells #[(A,0)] 186)) (.cells #[Ω] 3);have f3:=AF ((w3.alloc (.cells #[(A,0)] 186)).alloc (.cells #[Ω] 3)) (.cells #[Jj (SB+1) (B+1+1+1) SB (SB+1+1)] 216);have aT:(w3.alloc (.cells #[(A,0)] 186)).cell? (SB,0)=some (.pointer (some (A,0))):=A5 _ _ _ aJ;have aH:(w3.alloc (.cells #[(A,0)] 186)).heap.size=SB+1:=by simp[aJ]
  have aR:((w3.alloc (.cells #[(A,0)] 186)).alloc (.cells #[Ω] 3)).cell? (SB+1,0)=some (.int .i64 0):=A5 _ _ _ aH;have bD:((w3.alloc (.cells #[(A,0)] 186)).alloc (.cells #[Ω] 3)).frozen? (SB+1,0)=false:=FT _ _ _ aH;have bB:((w3.alloc (.cells #[(A,0)] 186)).alloc (.cells #[Ω] 3)).heap.size=SB+1+1:=by simp[aJ]
  have aQ:(((w3.alloc (.cells #[(A,0)] 186)).alloc (.cells #[Ω] 3)).alloc (.cells #[Jj (SB+1) (B+1+1+1) SB (SB+1+1)] 216)).cell? (SB+1+1,0)=some (Jj (SB+1) (B+1+1+1) SB (SB+1+1)):=A5 _ _ _ bB;have aD:=hx23.trans f1;have aG:=Aa (show CkE pn mn c.ml c.rows d.rows nn A b x0 (B+1+1+1) SB (.slice x1 c.rows.length y1) (.slice x2 d.rows.length y2) (.slice ra es.length rc) es (w3.alloc (.cells #[(A,0)] 186)) from
   { pr:=hpr.ex f1,gf:=hg.ex aD,m1:=(HC.o.g.ex aA).ex aD,m2:=(HD.o.g.ex aA).ex aD,x1:=hx01,x2:=hx02,n64:=by have:=aB.o.2.2;omega,r1:=fun r hr=>by have:=aV r hr;have:=aB.o.2.2;omega,r2:=fun r hr=>by have:=aU r hr;have:=aB.o.2.2;have:=HK.o.1;omega,k1:=aX,k2:=aW,rb:=f1.cell r0,sb:=aT,rs:=(HR.o.ex aA).ex aD })
  have bF:=Aa (show Gh (w3.alloc (.cells #[(A,0)] 186)) (SB+1) (SB+1+1) (Jj (SB+1) (B+1+1+1) SB (SB+1+1)) es.length 0 (((w3.alloc (.cells #[(A,0)] 186)).alloc (.cells #[Ω] 3)).alloc (.cells #[Jj (SB+1) (B+1+1+1) SB (SB+1+1)] 216)) from
   { ex:=f2.trans f3,c:=f3.cell aR,f:=f3.frz aR bD,fb:=aQ,ne:=ac,lb:=by rw[aH];omega,le:=Nat.zero_le _ })
  have HP:=Aa (fun (v:Value) (l:List Int) (h:Ak w v l)=>show Da (Ux (SB+1)) (((w3.alloc (.cells #[(A,0)] 186)).alloc (.cells #[Ω] 3)).alloc (.cells #[Jj (SB+1) (B+1+1+1) SB (SB+1+1)] 216)) v l from by
   refine⟨h.ex (((aA.trans hx23).trans f1).trans (f2.trans f3)),fun hl X hX hd=>?_⟩;have h2:=h.ex (aA.trans hx23);obtain⟨a,cap,rfl,-,-,h5⟩:=h2.open;obtain⟨b',o,rfl,h6⟩:=h5 (γy.2 hl);injection hX with hX;have hX:b'=X:=hX;have:=η _ _ (h6 0 _ (AZ (γy.2 hl)));have hd:X=SB+1:=hd;simp only at this;omega)
  have b0:=(f1.trans (f2.trans f3)).cell b0;have b1:=(f1.trans (f2.trans f3)).cell b1;have r0:=(f1.trans (f2.trans f3)).cell r0;have aN:=Aa (Sj aG.o (nn-tl.length) 0 _ tl sl (.slice ta tl.length tc) (.slice sa sl.length sc) (by have:=HK.o.2.2.1;have:=aB.o.2.2;omega) HK.o.2.1.symm (by have:=HK.o.2.2.2;rw[aB.o.2.2]at this;exact this) (fun h=>absurd rfl h) bF.o (HP.o _ _ HT.o) (HP.o _ _ HS.o));have hR:flF pn mn c.ml c.rows d.rows nn es (nn-tl.length) 0 tl sl=flS c d es tl sl:=by
   unfold flS;rw[aB.o.1,aB.o.2.1,aB.o.2.2];rfl
  rw[hR]at aN;have fb1:=Aa aQ;unfold Jj at b0 b1 r0 aQ aN bF f3;have bK:=Aa (aA.trans aD);have bG:=aG.o.rb;clear aD aA aH bB aT aR bD f1 f2 HP hx23 hpr hg hx01 hx02 hA h11 hf11 hx2 aX aW aV aU bI bH hR;generalize ((w3.alloc (.cells #[(A,0)] 186)).alloc (.cells #[Ω] 3)).alloc (.cells #[.func (.func 180) #[] #[(SB+1,0),.pointer (some (B+1+1+1,0)),(SB,0),(SB+1+1,0)]] 216)=w6 at *;obtain⟨R,hR⟩:=nA (flS c d es tl sl);rw[hR]at aN;have bM:=Aa hR
  try simp only[aJ]
  clear hR;have aP:R.1<=es.length∨True:=Or.inr trivial;clear aP;go_wp2_with (go_at_call 180;refine aN.o.mono ?_;rintro e7 w7⟨rfl,aE,-⟩;have bL:=Aa aE;have a7:=aE.c;have r7:=aE.ex.cell bG;have hl7:=aE.le;clear aE)
  all_goals
   go_ret;refine⟨⟨0,0,aM.o,fun _=>aF,?_⟩,bK.o.trans bL.o.ex⟩;rw[HE.o,bM.o];unfold ckE
   simp_all
structure VP(w1 wr:World)(E:Nat)(n:Int)(M:List (List Int))(rv:Value)(vals:List Value):Prop where
 c0:wr.cell? (E,0)=some (.int .i64 n)
 c1:wr.cell? (E,1)=some rv
 f1:wr.frozen? (E,1)=false
 rows:BI wr (E+1) rv M vals
 lb:w1.heap.size<=E
 ex:Ex w1 wr
section
variable {w1 wr w':World} {E:Nat} {n:Int} {M:List (List Int)} {rv v' l:Value} {vals:List Value} {L:List Int}
theorem VP.later(h:VP w1 wr E n M rv vals)(hx:Ex wr w'):VP w1 w' E n M rv vals:=
 ⟨hx.cell h.c0,hx.cell h.c1,hx.frz h.c1 h.f1,h.rows.ex hx,h.lb,h.ex.trans hx⟩
theorem VP.at1(h:VP w1 wr E n M rv vals)(ha:Bz wr w' (E+1) 22 1 rv v' M.length vals [l]):w'.cell? (E,1)=some rv/\w'.frozen? (E,1)=false:=
 ⟨ha.cell h.c1 (fun e=>EG h.rows.cvo e.symm),ha.frz h.c1 h.f1 (fun e=>EG h.rows.cvo e.symm)⟩
theorem VP.app1(h:VP w1 wr E n M rv vals)(hl:wr.ownsRow (E+1) 3 1 l L.length (Aj L))(h1:AD l rv)(ha:Bz wr w' (E+1) 22 1 rv v' M.length vals [l]):
  VP w1 (w'.setCell (E,1) v') E n (M ++ [L]) v' (vals ++ [l]):=by
 have aA:some E≠rv.ownBlock:=fun e=>EG h.rows.cvo e.symm;have hm:=h.rows.app hl h1 ha;refine⟨?_,World.cell?_setCell_same _ _ _ (ha.cell h.c1 aA),?_,hm.setNe (a:=⟨E,1,none⟩) (by show E<E+1;omega) v',h.lb,(ha.ex h.ex (by have:=h.lb;omega)).setCell (p:=⟨E,1,none⟩) h.lb _⟩
 .exact za9
 .rw[AC];exact ha.frz h.c1 h.f1 aA
end
theorem VP.new(w1:World)(n:Int):VP w1 (w1.alloc (.cells #[n,()] 137)) w1.heap.size n [] (.slice none 0 0) [] where
 c0:=ag
 c1:=ag
 f1:=ag
 rows:=BI.nil _ _
 lb:=Nat.le_refl _
 ex:=(Ex.refl _).alloc _
def Fv(p m:Nat)(ml pl sl:List Int)(fr N:Nat)(rows:List (List Int))(k:Nat):List (List Int):=(rows.take k).map fun x=>il N (Lk p m ml pl sl fr x N)
theorem GV{p m:Nat}{ml pl sl:List Int}{fr N:Nat}{rows:List (List Int)}{k:Nat}(h:k<=rows.length):(Fv p m ml pl sl fr N rows k).length=k:=by
 unfold Fv;simp;omega
theorem Xr{p m:Nat}{ml pl sl:List Int}{fr N:Nat}{rows:List (List Int)}{k:Nat}(h:k<rows.length):Fv p m ml pl sl fr N rows (k+1)=Fv p m ml pl sl fr N rows k ++ [il N (Lk p m ml pl sl fr (rows[k]'h) N)]:=by
 unfold Fv;rw[γd,γ h,δe];rfl
def imA(p m:Int)(ml pl sl:List Int)(fr n:Int)(rows:List (List Int)):List (List Int):=Fv p.toNat m.toNat ml pl sl fr.toNat n.toNat rows rows.length
def YA(p m:Int)(ml:List Int)(n:Int)(rows:List (List Int))(pl sl:List Int)(fr:Int)(b0:Nat)(r:Ending)(w':World):Prop:=
 ∃e1:Int,Bw p m ml n rows e1/\
  ((e1≠0/\r= .returned (.tuple #[.agg #[Ω,Ω,(),Ω,()],e1]))∨
  (e1=0/\Ef p m ml n pl sl fr≠0/\r= .returned (.tuple #[.agg #[Ω,Ω,(),Ω,()],.int .i64 (Ef p m ml n pl sl fr)]))∨
  (e1=0/\Ef p m ml n pl sl fr=0/\CNewR p m ml n (imA p m ml pl sl fr n rows) b0 r w'))
theorem bi{P:Prop}(h:P:=by simp[results,Tryz.results39,go_sem,q0,q1,q2,q3,q4]):P:=h
theorem cj{P:Prop}(h:P:=by show B+1+1<base;omega):P:=h
theorem NI(w:World)(p m:Int)(ml:List Int)(mv:Value)(aX:Ak w mv ml)(n:Int)(rows:List (List Int))(v:Value)(hv:B6 w v rows)(pl sl:List Int)(pv sv:Value)(hp:Ak w pv pl)(hs:Ak w sv sl)(fr:Int):
  Calls Tryz.prog 39 #[.agg #[p,m,mv,n,v],.agg #[pv,sv,fr]] w fun r w'=>YA p m ml n rows pl sl fr w.heap.size r w'/\Ex w w':=by
 obtain⟨c0,c1,c2,c3,c4,ea⟩:=EJ w p m mv n v;obtain⟨b0,b1,b2,eb⟩:=BA (w.alloc (.cells #[p,m,mv,n,v] 39)) pv sv fr;have bS:(w.alloc (.cells #[p,m,mv,n,v] 39)).heap.size=w.heap.size+1:=ag;have aL:((w.alloc (.cells #[p,m,mv,n,v] 39)).alloc (.cells #[pv,sv,fr] 26)).heap.size=w.heap.size+1+1:=ag;rw[bS]at b0 b1 b2;replace c0:=eb.cell c0;replace c1:=eb.cell c1;replace c2:=eb.cell c2;replace c3:=eb.cell c3;replace c4:=eb.cell c4;obtain⟨HX,HM,HV,HP,HS⟩:=On (ea.trans eb) aX hv hp hs;obtain⟨va,vc,rfl,-,q1,v3⟩:=hv.open;obtain⟨ma,mc,rfl,-,q2,-⟩:=aX.open;obtain⟨pa,pc,rfl,-,q3,-⟩:=hp.open;obtain⟨sa,sc,rfl,-,q4,-⟩:=hs.open;unfold maxLen at q1 q2 q3 q4;have V3:=Aa v3;obtain⟨B,hB⟩:=nA w.heap.size;rw[hB]at c0 c1 c2 c3 c4 b0 b1 b2 aL;clear aX hv hp hs ea eb bS v3;go_enter Tryz.func39,Tryz.ntmps39
 go_upto_region 1 with fail
 try simp only[hB]
 have HB:=Aa hB;clear hB;generalize (w.alloc (.cells #[p,m,(ma,ml.length,mc),n,.slice va rows.length vc] 39)).alloc (.cells #[(pa,pl.length,pc),(sa,sl.length,sc),fr] 26)=wB at *;have bq:=BxC.new wB;rw[aL]at bq;have ec:Ex wB _:=AF wB (.cells #[Ω,Ω,(),Ω,()] 39);have bR:(wB.alloc (.cells #[Ω,Ω,(),Ω,()] 39)).heap.size=B+1+1+1:=by simp[aL]
 try simp only[aL]
 generalize wB.alloc (.cells #[Ω,Ω,(),Ω,()] 39)=wC at *;obtain⟨aA,BQ,aB,CSZ⟩:=Of (fun w' (h:Ex wC w')=>(⟨h.cell (ec.cell c0),h.cell (ec.cell c1),h.cell (ec.cell c2),h.cell (ec.cell c3),h.cell (ec.cell c4),h.cell (ec.cell b0),h.cell (ec.cell b1),h.cell (ec.cell b2)⟩:_/\_/\_/\_/\_/\_/\_/\_)) bq (HX.o.trans ec) bR;have cC:=Aa (D6 wC p m ml _ (HM.o.ex aB.o) n rows _ (HV.o.ex aB.o));clear c0 c1 c2 c3 c4 b0 b1 b2 bq ec bR aL HX;obtain⟨c0,c1,c2,c3,c4,b0,b1,b2⟩:=aA.o wC (Ex.refl _);go_wp2_with fail
 refine cC.o.mono ?_;rintro e w2⟨⟨e1,rfl,bM⟩,aU⟩;clear c0 c1 c2 c3 c4 b0 b1 b2 cC;obtain⟨c0,c1,c2,c3,c4,b0,b1,b2⟩:=aA.o w2 aU;have aE:=Aa aU;have aJ:=Aa bM;clear aU bM;by_cases h1:e1=0
 .subst h1;have HF:=Aa (DH aJ.o);have HR:=Aa (C6 aJ.o);have aZ:=Aa (Np w2 p m ml _ (HM.o.ex (aB.o.trans aE.o)) n pl sl _ _ (HP.o.ex (aB.o.trans aE.o)) (HS.o.ex (aB.o.trans aE.o)) fr);obtain⟨E,hE⟩:=nA (Ef p m ml n pl sl fr);rw[hE]at aZ;have HE:=Aa hE;clear hE;go_wp2_with fail
  refine aZ.o.mono ?_;rintro e w3⟨ho,aT⟩;clear c0 c1 c2 c3 c4 b0 b1 b2 aZ;obtain⟨c0,c1,c2,c3,c4,b0,b1,b2⟩:=aA.o w3 (aE.o.trans aT);have aD:=Aa (aE.o.trans aT);clear aT aE;rcases ho with⟨rfl,b,pn,mn,x0,rfl,rfl,rfl,hg,x1,x2'⟩|⟨h0,ptr,rfl⟩
  .obtain⟨_,n1,n2,n3,n4,n5,n6,n7,_,_⟩:=RY HE.o;obtain⟨fn,rfl⟩:∃fn:Nat,fr=fn:=⟨fr.toNat,ac⟩;obtain⟨N,rfl⟩:∃N:Nat,n=N:=⟨n.toNat,ac⟩;have HR2:=HR.o.1;have bK:∀r∈rows,r.length=N:=fun r hr=>by have:=HR.o.2 r hr;omega
   obtain⟨cO,bZ,cT,aR⟩:=Of bK (show 1<=N/\N<=64/\ml.length<=1000 from⟨ac,ac,by have h:=hg.sh.len;have h8:=hg.sh.m8;rw[h];split <;> omega⟩) (fun (w1:World) (h1:Ex w3 w1) (x:List Int) (xv:Value) (hx:Ak w1 xv x) (cF:x.length=N)=>Vn w1 (hg.ex h1) N ac pl sl x _ _ xv (HP.o.ex ((aB.o.trans aD.o).trans h1)) (HS.o.ex ((aB.o.trans aD.o).trans h1)) hx fn ac ac ac cF n5) (show imA pn mn ml pl sl fn N rows=Fv pn mn ml pl sl fn N rows rows.length from by unfold imA;simp only[Int.toNat_natCast]);clear n1 n2 n3 n4 n5 n6 n7 bK x1 x2' hg HR;go_upto_region 8 with fail
   obtain⟨F,hF⟩:=nA w3.heap.size;have aV:=VP.new w3 (N:Int)
   try simp only[hF]
   rw[hF]at aV;have bY:=Aa aV;have HFW:=Aa hF;have ec:=AF w3 (.cells #[N,()] 137);generalize w3.alloc (.cells #[N,()] 137)=w4 at *;clear c0 c1 c2 c3 c4 b0 b1 b2 hF aV;obtain⟨c0,c1,c2,c3,c4,b0,b1,b2⟩:=aA.o w4 (aD.o.trans ec);have EC:=Aa ec;clear ec;go_wp2_with fail
   go_loopw [37] (fun i' wr=>∃(k:Nat) (rv:Value) (vals:List Value),k<=rows.length/\i'= .int .i64 k/\Hia (VP w3 wr F N (Fv pn mn ml pl sl fn N rows k) rv vals)) (fun i' _=>rows.length-(intOf i').toNat)
   case atStart=>exact⟨0,_,_,ac,rfl,bY⟩
   case round=>
    clear bY c0 c1 c2 c3 c4 b0 b1 b2;obtain⟨k,rv,vals,hk,rfl,BF⟩:=hrel;by_cases hkR:k<rows.length
    .obtain⟨rb,ro,rfl,bL⟩:=V3.o ac;obtain⟨uv,bJ,aN⟩:=bL k _ (γ hkR);have aP:=Aa BF.o.ex;have cu:=((aB.o.trans aD.o).trans aP.o).cell bJ;have i1:(0:Int)<=(k:Int):=by omega
     have i2:(k:Int)<(rows.length:Int):=ac;obtain⟨x,hx⟩:=nA (rows[k]);have bT:=Aa (Xr (p:=pn) (m:=mn) (ml:=ml) (pl:=pl) (sl:=sl) (fr:=fn) (N:=N) hkR);have cJ:Hia (x.length=N):=Aa (hx ▸ cO.o _ (Ϙ hkR));rw[hx]at bT aN;have cL:=Aa (aN.ex ((aB.o.trans aD.o).trans aP.o));have aH:=Aa (GV (p:=pn) (m:=mn) (ml:=ml) (pl:=pl) (sl:=sl) (fr:=fn) (N:=N) hk);have aG:=Aa BF.o;obtain⟨b0,b1,b2⟩:=(aA.o wr (aD.o.trans aP.o)).2.2.2.2.2;have t1:=BF.o.c1;have T1F:=Aa BF.o.f1;obtain⟨qa,qc,aW⟩:=Ad BF.o.rows.cvo;subst aW;rw[GV ac]at t1;have bV:=Aa t1;obtain⟨ua,uc,rfl,-,u2,-⟩:=aN.open;unfold maxLen at u2;have bW:=Aa (fun (w1:World) (h1:Ex wr w1)=>cT.o w1 (aP.o.trans h1) x _ (cL.o.ex h1) cJ.o);clear bL bJ aN hx BF;go_upto_region 11 with fail
     have aF:=Aa (show Ex wr wr.drew from(Ex.refl wr).drew)
     go_region_law
      ((first
              | (refine Cq bp _ _ _ bp (F+1) 22 (.slice none 0 0) 1 24 Tryz.underlying37 BZ rfl ae (.slice qa k qc) k vals bp (by have h:=Ag aG.o.rows.cvo ((aF.o.trans aI).trans (AF w5 (.cells #[.slice (some (g5,0)) N N] 22)));rw[aH.o]at h;exact h) _ 1 [.slice (some (g5,0)) N N] bp (Sl.own (Ee w5 (.slice (some (g5,0)) N N) 22)) aj ai ac (by have:=cN.o;simp;omega) ?_;intro v8 w8 aC bO bP;have bB:=Aa (XW (by have h:=Ag aG.o.rows.cvo (aF.o.trans aI);rw[aH.o]at h;exact h) aC bO bP);obtain⟨bD,cD⟩:=(aG.o.later (aF.o.trans aI)).at1 (by rw[aH.o];exact bB.o);rw[aH.o]at bD;obtain⟨va8,vc8,cI⟩:=Ad aC;subst cI)
              | (go_simp;refine(bW.o _ aF.o).mono ?_;rintro e w5⟨g5,rfl,aO,aI⟩;have t1:=aI.cell (show wr.drew.cell? (F,1)=some (.slice qa k qc) from bV.o);have cE:=(AF w5 (.cells #[.slice (some (g5,0)) N N] 22)).cell t1;have cN:Hia (F+1<=w5.heap.size):=Aa (by have h1:=aO.lt;have h2:=η _ _ t1;exact h2);go_simp)))
     all_goals
      have aK:=aF.o.trans aI;have aM:=aG.o.later aK;have bN:w5.ownsRow (F+1) 3 1 (.slice (some (g5,0)) N N) (il N (Lk pn mn ml pl sl fn x N)).length (Aj (il N (Lk pn mn ml pl sl fn x N))):=by
       rw[AM,Cy];exact Bj aO (η _ _ (aF.o.cell bV.o))
      have bQ:∀v2 (e2:TypeId) (n2:Nat) bC,wr.ownsRow (F+1) e2 1 v2 n2 bC->AD (.slice (some (g5,0)) N N) v2:=fun v2 e2 n2 bC h=>by
       right;show some g5≠_
       intro e;have h1:=(h.lt g5 e.symm).2;have h2:=aO.lt.1;have h3:=aF.o.size;omega
      have bX:=Aa (aM.app1 bN (bQ _ _ _ _ aG.o.rows.cvo) (by rw[aH.o];exact bB.o));rw[<-bT.o]at bX;clear aM bN bQ aK bD cD t1 cE bB aC bO bP aO aI bW;go_wp2_with fail
      go_roundw
      case rel=>exact⟨k+1,_,_,ac,by go_num,bX⟩
      case measure=>exact Ωm
    .obtain rfl:k=rows.length:=by omega
     have aG:=Aa BF.o;obtain⟨c0,c1,c2,c3,c4,-,-,-⟩:=aA.o wr (aD.o.trans BF.o.ex);have t0:=BF.o.c0;have t1:=BF.o.c1;have aY:=Aa ((aB.o.trans aD.o).trans BF.o.ex);have bU:=Aa (aD.o.trans BF.o.ex);obtain⟨qa,qc,aW⟩:=Ad BF.o.rows.cvo;subst aW;have aH:=Aa (GV (p:=pn) (m:=mn) (ml:=ml) (pl:=pl) (sl:=sl) (fr:=fn) (N:=N) (Nat.le_refl rows.length));have bA:=Aa (QP wr pn mn ml _ (HM.o.ex aY.o) bZ.o.2.2 N _ _ aG.o.rows.msl (fun _=>by have:=bZ.o.1;omega));rw[aH.o]at t1 bA;clear BF;go_wp2_with fail
     refine bA.o.mono ?_;rintro e w7⟨hc,aS⟩;obtain⟨q0,q1,q2,q3,q4,bI,bH,bG,bF,bE⟩:=BQ.o.ex (bU.o.trans aS);have X7:=Aa (aY.o.trans aS);have hw:=HB.o;have cM:Hia (B+1+1<wr.heap.size):=Aa (η _ _ (BQ.o.ex bU.o).c0);clear aS bA;rcases hc with⟨hne,rfl⟩|⟨hne,pn',mn',N',piv,a',rv,v',e1,e2,e3,hfb,hmk,rfl,hel,hv',hrv,hb',g,blk,cap,base,hbase,rfl,hem,hp2,hr2⟩
     .have cA:=Aa hne;have HFE:=Aa aR.o;obtain⟨Z,hZ⟩:=nA (K6 pn mn ml N (Fv pn mn ml pl sl fn N rows rows.length));rw[hZ]at cA
      try rw[hZ]
      have HZ:=Aa hZ;clear hne hZ;go_wp2_with fail
      exact bodyPost_ret (v:= .tuple #[.agg #[Ω,Ω,(),Ω,()],Z]) bi rfl ⟨⟨0,aJ.o,.inr (.inr ⟨rfl,HE.o,.inl ⟨by rw[aR.o,HZ.o];exact cA.o,by rw[aR.o,HZ.o]⟩⟩)⟩,DY X7.o ac _ _ _ _ _⟩
     .have cH:=cM.o;have cG:=aY.o.size;obtain⟨cB,cV,cU,cS⟩:=Of (((((hem.low (A:=⟨B+1+1,0,none⟩) cj (.int .i64 pn)).low (A:=⟨B+1+1,1,none⟩) cj (.int .i64 mn)).low (A:=⟨B+1+1,2,none⟩) cj v').low (A:=⟨B+1+1,3,none⟩) cj (.int .i64 N)).low (A:=⟨B+1+1,4,none⟩) cj (.slice (some (g,0)) piv.length piv.length)) (show ∀B',v'.ownBlock=some B'->B'≠B+1+1 from fun B' h=>by have:=hb' B' h;omega) (show ∀B',v'.ownBlock=some B'->w.heap.size<=B' from fun B' h=>by have:=hb' B' h;omega) (show w.heap.size<=base from ac);have aQ:Hia (K6 pn mn ml N (Fv pn mn ml pl sl fn N rows rows.length)=0/\FD pn mn ml/\BV (pn^mn) N (Fv pn mn ml pl sl fn N rows rows.length)=0/\Ia pn mn ml N (Fv pn mn ml pl sl fn N rows rows.length).length (An (Fv pn mn ml pl sl fn N rows rows.length)) a' piv):=Aa (by
       obtain rfl:pn=pn':=ac;obtain rfl:mn=mn':=ac;obtain rfl:N=N':=ac;exact⟨hne,hfb,hmk,hel⟩)
      obtain rfl:N=N':=ac;obtain⟨cP,cQ,cR,cK,HEQ⟩:=On hp2 hr2 (cB.o.msl hp2 hr2) hv' (show pn=pn'/\mn=mn' from⟨ac,ac⟩);obtain⟨xa,xc,rfl,-,-,-⟩:=hv'.open;clear hne hfb hmk hel hv' hrv hb' hbase hem hp2 hr2 cH cG e1 e2 e3;go_wp2_with fail
      exact bodyPost_ret (v:= .tuple #[.agg #[pn,mn,(xa,ml.length,xc),N,.slice (some ⟨g,0,none⟩) piv.length piv.length],Ω]) bi rfl ⟨⟨0,aJ.o,.inr (.inr ⟨rfl,HE.o,by rw[aR.o];exact .inr ⟨aQ.o.1,pn,mn,N,piv,a',_,_,rfl,rfl,rfl,aQ.o.2.1,aQ.o.2.2.1,rfl,aQ.o.2.2.2,Kz cK.o cV.o _ _ _ _ _,cR.o,cU.o,g,blk,cap,base,cS.o,rfl,cB.o,cP.o,cQ.o⟩⟩)⟩,DY X7.o ac _ _ _ _ _⟩
  .have k1:(E==0)=false:=by simpa using h0
   obtain⟨q0,q1,q2,q3,q4,bI,bH,bG,bF,bE⟩:=BQ.o.ex aD.o;have H0:=Aa h0;have hw:=HB.o;clear h0;go_wp2_with fail
   exact bodyPost_ret (v:= .tuple #[.agg #[Ω,Ω,(),Ω,()],E]) bi rfl ⟨⟨0,aJ.o,.inr (.inl ⟨rfl,by rw[HE.o];exact H0.o,by rw[HE.o]⟩)⟩,DY (aB.o.trans aD.o) ac _ _ _ _ _⟩
 .have k1:(e1==0)=false:=by simpa using h1
  obtain⟨q0,q1,q2,q3,q4,bI,bH,bG,bF,bE⟩:=BQ.o.ex aE.o;have H1:=Aa h1;have hw:=HB.o;clear h1;go_wp2_with fail
  exact bodyPost_ret (v:= .tuple #[.agg #[Ω,Ω,(),Ω,()],e1]) bi rfl ⟨⟨e1,aJ.o,.inl ⟨H1.o,rfl⟩⟩,DY (aB.o.trans aE.o) ac _ _ _ _ _⟩
theorem Q8(w:World)(pl sl ql tl:List Int)(pv sv qv tv:Value)(hp:Ak w pv pl)(hs:Ak w sv sl)(hq:Ak w qv ql)(ht:Ak w tv tl)(fr fs:Int):
  Calls Tryz.prog 20 #[.agg #[pv,sv,fr],.agg #[qv,tv,fs]] w fun r w'=>r= .returned (.bool (decide (fr=fs/\pl=ql/\sl=tl)))/\Ex w w':=by
 obtain⟨a0,a1,a2,ea⟩:=BA w pv sv fr;obtain⟨b0,b1,b2,eb⟩:=BA (w.alloc (.cells #[pv,sv,fr] 26)) qv tv fs;have aF:(w.alloc (.cells #[pv,sv,fr] 26)).heap.size=w.heap.size+1:=ag;rw[aF]at b0 b1 b2;replace a0:=eb.cell a0;replace a1:=eb.cell a1;replace a2:=eb.cell a2;obtain⟨HX,HP,HS,HQ,HT⟩:=On (ea.trans eb) hp hs hq ht;obtain⟨pa,pc,rfl,-,q1,-⟩:=hp.open;obtain⟨sa,sc,rfl,-,q2,-⟩:=hs.open;obtain⟨qa,qc,rfl,-,q3,-⟩:=hq.open;obtain⟨ta,tc,rfl,-,q4,-⟩:=ht.open;unfold maxLen at q1 q2 q3 q4;obtain⟨B,hB⟩:=nA w.heap.size;rw[hB]at a0 a1 a2 b0 b1 b2;clear hp hs hq ht ea eb aF;go_enter Tryz.func20,Tryz.ntmps20
 go_upto_region 1 with fail
 try simp only[hB]
 clear hB;generalize (w.alloc (.cells #[(pa,pl.length,pc),(sa,sl.length,sc),fr] 26)).alloc (.cells #[(qa,ql.length,qc),(ta,tl.length,tc),fs] 26)=w1 at *;have aE:=Aa (fun w' (h:Ex w1 w')=>(⟨h.cell a0,h.cell a1,h.cell b0,h.cell b1⟩:_/\_/\_/\_));have aD:=Aa (DJ w1 pl ql _ _ (HP.o.ex HX.o) (HQ.o.ex HX.o));have aI:=Aa (fun (w2:World) (h:Ex w1 w2)=>DJ w2 sl tl _ _ (HS.o.ex (HX.o.trans h)) (HT.o.ex (HX.o.trans h)));by_cases h1:fr=fs
 .have k1:(fr==fs)=true:=by simpa using h1
  by_cases h2:pl=ql
  .have aA:=Aa aD.o;rw[show decide (pl=ql)=true from by simpa using h2]at aA;have aG:=Aa (And.intro h1 h2);clear h1 h2 aD;go_wp2_with fail
   refine aA.o.mono ?_;rintro e w2⟨rfl,n2,rfl⟩;have aC:=Aa ((Ex.refl w1).drewN n2);clear a0 a1 b0 b1;obtain⟨a0,a1,b0,b1⟩:=aE.o _ aC.o;have aB:=Aa (aI.o _ aC.o);obtain⟨D,hD⟩:=nA (decide (sl=tl));rw[hD]at aB;have HD:=Aa hD;clear hD;go_wp2_with fail
   refine aB.o.mono ?_;rintro e w3⟨rfl,n3,rfl⟩;have aH:=Aa ((Ex.refl w1).drewN (n2+n3));go_wp2_with fail
   go_ret;refine⟨?_,HX.o.trans aH.o⟩;have:=HD.o;have:=aG.o.1;have:=aG.o.2
   simp_all
  .have aA:=Aa aD.o;rw[show decide (pl=ql)=false from by simpa using h2]at aA;have H2:=Aa h2;clear h2 aD;go_wp2_with fail
   refine aA.o.mono ?_;rintro e w2⟨rfl,n2,rfl⟩;have aC:=Aa ((Ex.refl w1).drewN n2);go_wp2_with fail
   go_ret;refine⟨?_,HX.o.trans aC.o⟩;have:=H2.o
   simp_all
 .have k1:(fr==fs)=false:=by simpa using h1
  have H1:=Aa h1;clear h1;go_wp2_with fail
  go_ret;refine⟨?_,HX.o⟩;have:=H1.o
  simp_all
def BolR(P:Prop)(r:Ending):Prop:=∃b:Bool,r= .returned (.bool b)/\(b=true↔P)
theorem Un{P:Prop}(h:¬P):BolR P (.returned (.bool false)):=⟨false,rfl,⟨fun h=>az,fun k=>absurd k h⟩⟩
theorem LW{P:Prop}(h:P):BolR P (.returned (.bool true)):=⟨true,rfl,⟨fun _=>h,fun _=>rfl⟩⟩
def Wa(rows:List (List Int)):Nat:=rows.length+(rows.map ηw).sum
def QA(aA:Int)(rows:List (List Int))(aB:Int):Bool:=decide (aA<=260/\(Wa rows:Int)<=aB)
theorem JC:∀(l:List Nat) (i:Nat),(l.take i).sum<=l.sum
 | [],i=>by simp
 | x :: l,0=>by simp
 | x :: l,i+1=>by have:=JC l i;simp;omega
theorem zci{P:Prop}(h:P:=by
 clear HF;go_enter Tryz.func120,Tryz.ntmps120
 exact zdg):P:=h
theorem UQ(w:World)(aA:Int)(rows:List (List Int))(v:Value)(hv:B6 w v rows)(lim:Int)(hl0:0<=lim)(hl1:lim<=100000):
  Calls Tryz.prog 120 #[.agg #[aA,v],lim] w fun r w'=>r= .returned (.bool (QA aA rows lim))/\Ex w w':=by
 obtain⟨d0,d1,e0⟩:=Du w aA v;obtain⟨za,zc,rfl,z1,z2,z3⟩:=(hv.ex e0).open;have Z3:=Aa z3;unfold maxLen at z2;have HE:=Aa e0;clear hv z3 e0;obtain⟨F,hF⟩:=nA (QA aA rows lim);have HF:Hia (F=decide (aA<=260/\(Wa rows:Int)<=lim)):=Aa (hF.symm);rw[hF];clear hF;by_cases h1:260<aA
 .have hF:F=false:=by rw[HF.o];exact decide_eq_false ac
  subst hF;exact zci
 .have aB:aA<=260:=by omega
  clear h1;by_cases h2:lim<(rows.length:Int)
  .have hF:F=false:=by rw[HF.o];exact decide_eq_false (by unfold Wa;omega)
   subst hF;exact zci
  .have h2':(rows.length:Int)<=lim:=by omega
   have b1:decide (260<aA)=false:=aq;have b2:decide (lim<(rows.length:Int))=false:=aq;clear h2;go_enter Tryz.func120,Tryz.ntmps120
   go_wp2_with fail
   generalize w.alloc (.cells #[aA,(za,rows.length,zc)] 137)=w1 at *
   go_loopw [5,6] (fun l' i' wr=>∃(i:Nat) (l:Int),i<=rows.length/\i'= .int .i64 i/\l'= .int .i64 l/\0<=l/\l<=100000/\Hia (l=lim-rows.length-(((rows.map ηw).take i).sum:Nat))/\wr=w1) (fun _ i' _=>rows.length-(intOf i').toNat)
   case atStart=>exact⟨0,lim-rows.length,ac,rfl,by go_num,ac,ac,Aa ag,rfl⟩
   case round=>
    obtain⟨i,l,hi,rfl,rfl,l1,l2,hl,rfl⟩:=hrel;by_cases hlt:i<rows.length
    .obtain⟨r,hr⟩:∃r,rows[i]?=some r:=⟨_,γ hlt⟩;have HS:=Aa (show((rows.map ηw).take (i+1)).sum=((rows.map ηw).take i).sum+r.length from by
      rw[γd,List.getElem?_map,hr];simp)
     have HT:=Aa (JC (rows.map ηw) (i+1));obtain⟨bb,o,rfl,hc⟩:=Z3.o ac;obtain⟨u,c1,hu⟩:=hc i r hr;obtain⟨ua,uc,rfl,u1,u2,u3⟩:=hu.open;unfold maxLen at u2;clear hc hu u3 hr;by_cases h3:l<(r.length:Int)
     .have hF:F=false:=by
       rw[HF.o];have s1:=hl.o;have s2:=HS.o;have s3:=HT.o;exact decide_eq_false (by unfold Wa;omega)
      subst hF;clear HF HS HT hl;exact zdg
     .have h3':(r.length:Int)<=l:=by omega
      have HL:Hia (l-r.length=lim-rows.length-(((rows.map ηw).take (i+1)).sum:Nat)):=Aa (by
       have s1:=hl.o;have s2:=HS.o;omega)
      clear h3 HS HT hl;go_wp2_with fail
      go_roundw
      case rel=>exact⟨i+1,_,ac,by go_num,(by first|rfl|trivial),ac,ac,HL,(by first|rfl|trivial)⟩
      case measure=>exact Ωm
    .obtain rfl:i=rows.length:=by omega
     have hF:F=true:=by
      rw[HF.o];have s1:=hl.o;rw[List.take_of_length_le ag]at s1;exact decide_eq_true ⟨aB,by unfold Wa;omega⟩
     subst hF;clear hl HF;exact zdg
theorem Rz(w:World)(p m:Int)(mv:Value)(n:Int)(rows:List (List Int))(v:Value)(hv:B6 w v rows)(aA:Int)(aD:0<=aA)(aC:aA<=100000):
  Calls Tryz.prog 61 #[.agg #[p,m,mv,n,v],aA] w fun r w'=>r= .returned (.bool (QA 0 rows aA))/\Ex w w':=by
 obtain⟨a0,a1,a2,a3,a4,ea⟩:=EJ w p m mv n v;have aB:=Aa (fun (w':World) (h:Ex w w')=>UQ w' 0 rows v (hv.ex h) aA aD aC);obtain⟨za,zc,rfl,-,z2,-⟩:=hv.open;have HE:=Aa ea;clear hv ea z2;obtain⟨F,hF⟩:=nA (QA 0 rows aA);rw[hF]at aB ⊢;clear hF;go_enter Tryz.func61,Tryz.ntmps61
 go_wp2_with fail
 generalize w.alloc (.cells #[p,m,mv,n,(za,rows.length,zc)] 39)=w1 at *;refine(aB.o w1 HE.o).mono ?_;rintro e w2⟨rfl,hx⟩;have HX:=Aa (HE.o.trans hx);clear hx;exact zdf
theorem Lz{p m:Nat}{ml:List Int}{N R R2:Nat}{a b a1 a2:Nat->Nat->Int}{aA piv2:List Nat}(hp:2<=p)(hm:1<=m)(aB:∀x,B9 p m ml N R a x↔B9 p m ml N R2 b x)(h1:Ia p m ml N R a a1 aA)(h2:Ia p m ml N R2 b a2 piv2):Au N aA.length a1=Au N piv2.length a2/\aA=piv2:=by
 obtain⟨c1,x1,y1,z1,s1⟩:=h1;obtain⟨c2,x2,y2,z2,s2⟩:=h2;obtain⟨e1,e2⟩:=Zl (ml:=ml) hp hm ⟨c1,x1,y1,z1⟩ ⟨c2,x2,y2,z2⟩ fun x=>((s1 x).trans (aB x)).trans (s2 x).symm;subst e1;refine⟨γl fun i hi=>γl fun j hj=>e2 i (κ.1 hi) j (κ.1 hj),rfl⟩
theorem IC{p m:Nat}{ml:List Int}{N R:Nat}{a:Nat->Nat->Int}{piv:List Nat}{c:Nat}(h:PV p m R N a piv c)(hc:c<=N)(hr:piv.length=R):Ia p m ml N R a a piv:=⟨c,hc,h,.inl hr,fun x=>Iff.rfl⟩
theorem B3{p m n:Int}{ml:List Int}{rows:List (List Int)}{e e':Int}(h:Bw p m ml n rows e)(h':Bw p m ml n rows e'):e=e':=by
 rcases h with⟨a,rfl⟩|⟨a,b,rfl⟩|⟨a,b,h⟩ <;> rcases h' with⟨a',rfl⟩|⟨a',b',rfl⟩|⟨a',b',h'⟩ <;> first|rfl|contradiction|skip
 rcases h with⟨c,rfl⟩|⟨c,pn,mn,N,piv,a1,rfl,rfl,rfl,hF,_,hE,rfl⟩ <;> rcases h' with⟨c',rfl⟩|⟨c',pn',mn',N',piv',a1',e1,e2,e3,hF',_,aB,rfl⟩ <;> first|rfl|contradiction|skip
 obtain rfl:pn'=pn:=ac;obtain rfl:mn'=mn:=ac;obtain rfl:N'=N:=ac;obtain⟨p1,m1,e1,e2,aA,_⟩:=hF;obtain rfl:p1=pn':=ac;obtain rfl:m1=mn':=ac;rw[(Lz aA.p2 aA.m1 (fun _=>Iff.rfl) hE aB).1]
theorem Wz{p m N q:Nat}{r:List Int}(hq:q<N)(h0:∀j,j<N->0<=r.getD j 0/\r.getD j 0<((p^m:Nat):Int))(h1:r.getD q 0=1)(h2:∀k,k<q->r.getD k 0=0):PV p m 1 N (An [r]) [q] (q+1) where
 le:=ag
 rng:=fun i hi j hj=>by
  obtain rfl:i=0:=ac;exact h0 j hj
 lt:=fun j q' h=>by
  rcases j with _|j
  .simp at h;omega
  .simp at h
 one:=fun j q' h=>by
  rcases j with _|j
  .simp at h;subst h;exact h1
  .simp at h
 zer:=fun j q' i h hi hne=>by
  rcases j with _|j
  .omega
  .simp at h
 tail:=fun i j h hi _=>by simp at h;omega
 lead:=fun j q' k h hk=>by
  rcases j with _|j
  .simp at h;subst h;exact h2 k hk
  .simp at h
 asc:=fun i j q' r' hij h h'=>by
  rcases j with _|j
  .omega
  .simp at h'
theorem il_row{N:Nat}{r:List Int}(h:r.length=N):il N (An [r] 0)=r:=by
 subst h;refine List.ext_getElem? fun j=>?_;by_cases hj:j<r.length
 .rw[AT hj,γ hj];show some (r.getD j 0)=_
  rw[δ,γ hj];rfl
 .exact zaU
theorem QQ{p m N q:Nat}{ml:List Int}{r:List Int}{e:Int}(hF:FD p m ml)(hc:Dx p m ml N [r]=0)(hl:Eo N=0)(hk:BV (p^m) N [r]=0)(hr:r.length=N)(hv:PV p m 1 N (An [r]) [q] (q+1))(hq:q<N)(h:Bw p m ml N [r] e):e=0:=by
 have aA:Cm p m ml=0:=by
  apply Γ;intro h;unfold Dx at hc;rw[if_pos h]at hc;cases hc
 refine B3 h (.inr (.inr ⟨aA,hl,.inr ⟨hc,p,m,N, [q],An [r],rfl,rfl,rfl,hF,hk,IC hv ac rfl,?_⟩⟩));rw[if_pos];show [il N (An [r] 0)]= [r]
 rw[il_row hr]
def eC:AX:=⟨2,1, [],3, [[1,1,0]]⟩
theorem e21:FD 2 1 []:=⟨2,1,rfl,rfl,⟨ac,ac,ac,ae,rfl,by intro x hx;cases hx⟩,ae,(GW (p:=2) (m:=1) (ml:= []) ⟨ac,ac,ac,ae,rfl,by intro x hx;cases hx⟩ ae).2 (.inl rfl)⟩
theorem XY:PV 2 1 1 3 (An [[1,1,0]]) [0] 1:=Wz ac ae rfl ae
theorem OQ{e:Int}(h:Bw 2 1 [] 3 [[1,1,0]] e):e=0:=QQ (p:=2) (m:=1) (N:=3) e21 ak ak ak rfl XY ac h
def Ei(S:List (Nat->Nat))(x y:Nat):Prop:=∃f,Gn S f/\f x=y
theorem Ei.refl(S:List (Nat->Nat))(x:Nat):Ei S x x:=⟨Ep,.one,rfl⟩
theorem Ei.trans{S:List (Nat->Nat)}{x y z:Nat}(h:Ei S x y)(k:Ei S y z):Ei S x z:=by
 obtain⟨f,hf,rfl⟩:=h;obtain⟨g,hg,rfl⟩:=k;exact⟨_,hf.mul hg,rfl⟩
theorem Ei.symm{n:Nat}{S:List (Nat->Nat)}(hS:∀s∈S,Bo n s){x y:Nat}(h:Ei S x y):Ei S y x:=by
 obtain⟨f,hf,rfl⟩:=h;exact⟨_,hf.inv hS,(hf.isP hS).inv_l x⟩
theorem Ei.of{S:List (Nat->Nat)}{s:Nat->Nat}(h:s∈S)(x:Nat):Ei S x (s x):=⟨s,Gn.of h,rfl⟩
theorem Ei.lt{n:Nat}{S:List (Nat->Nat)}(hS:∀s∈S,Bo n s){x y:Nat}(hx:x<n)(h:Ei S x y):y<n:=by
 obtain⟨f,hf,rfl⟩:=h;exact(hf.isP hS).lt x hx
theorem Ei.closed{S:List (Nat->Nat)}{C:Nat->Prop}(hC:∀s∈S,∀x,C x->C (s x)){x y:Nat}(hx:C x)(h:Ei S x y):C y:=by
 obtain⟨f,hf,rfl⟩:=h
 induction hf with
 | one=>exact hx
 | step _ hs ih=>exact hC _ hs _ ih
def Pc(S:List (Nat->Nat))(i:Nat):Prop:=∀y,Ei S i y->i<=y
open Classical in
noncomputable def WI (n:Nat) (S:List (Nat->Nat)) (i:Nat):List Nat:=(ξ n).filter fun y=>decide (Ei S i y)
noncomputable def RP(n:Nat)(S:List (Nat->Nat))(i:Nat):List Int:=(WI n S i).map fun (y:Nat)=>(y:Int)
open Classical in
noncomputable def DA (n:Nat) (S:List (Nat->Nat)) (m:Nat):List (List Int):=((ξ m).filter fun i=>decide (Pc S i)).map (RP n S)
open Classical in
theorem WW {n:Nat} {S:List (Nat->Nat)} {i y:Nat}:y∈WI n S i↔y<n/\Ei S i y:=by
 unfold WI;rw[List.mem_filter,κ,decide_eq_true_eq]
theorem WH(n:Nat)(S:List (Nat->Nat))(i:Nat):(WI n S i).Pairwise (·< ·):=List.Pairwise.filter _ List.pairwise_lt_range
theorem QZ:∀ {l k:List Nat},l.Pairwise (·< ·)->k.Pairwise (·< ·)->(∀x,x∈l↔x∈k)->l=k
 | [], [],_,_,_=>rfl
 | [],b :: k,_,_,h=>absurd ((h b).2 (Θ ..)) (γx)
 | a :: l, [],_,_,h=>absurd ((h a).1 (Θ ..)) (γx)
 | a :: l,b :: k,hl,hk,h=>by
  obtain⟨aA,aC⟩:=ηg.1 hl;obtain⟨aB,aD⟩:=ηg.1 hk;have aE:a=b:=by
   rcases ϒ.1 ((h a).1 (Θ ..)) with h1|h1
   .exact h1
   .rcases ϒ.1 ((h b).2 (Θ ..)) with h2|h2
    .exact h2.symm
    .have:=aB a h1;have:=aA b h2;omega
  subst aE
  congr 1
  refine QZ aC aD fun x=>?_;constructor
  .intro hx;rcases ϒ.1 ((h x).1 (ω _ hx)) with h1|h1
   .have:=aA x hx;omega
   .exact h1
  .intro hx;rcases ϒ.1 ((h x).2 (ω _ hx)) with h1|h1
   .have:=aB x hx;omega
   .exact h1
theorem K3(n:Nat)(S:List (Nat->Nat))(m:Nat):(Pc S m->DA n S (m+1)=DA n S m ++ [RP n S m])/\(¬Pc S m->DA n S (m+1)=DA n S m):=by
 unfold DA;rw[List.range_succ,List.filter_append,δe];constructor
 .intro h;simp[ιh,h]
 .intro h;simp[ιh,h]
theorem UY(n:Nat)(S:List (Nat->Nat))(m:Nat):(DA n S m).length<=m:=by
 unfold DA;rw[List.length_map];exact Nat.le_trans (List.length_filter_le _ _) ag
def F8(S:List (Nat->Nat))(i x:Nat):Prop:=∃y,Ei S x y/\y<i
theorem Ho{S:List (Nat->Nat)}{i:Nat}:F8 S i i↔¬Pc S i:=by
 constructor
 .rintro⟨y,h1,h2⟩ h3;have:=h3 y h1;omega
 .intro h;apply Γ;intro h2;refine h fun y hy=>?_;apply Γ;intro h3;exact h2 ⟨y,hy,ac⟩
theorem KC{n:Nat}{S:List (Nat->Nat)}(hS:∀s∈S,Bo n s){i x:Nat}:F8 S (i+1) x↔F8 S i x∨Ei S i x:=by
 constructor
 .rintro⟨y,h1,h2⟩;by_cases h:y<i
  .exact .inl ⟨y,h1,h⟩
  .have:y=i:=by omega
   subst this;exact .inr (h1.symm hS)
 .rintro (⟨y,h1,h2⟩|h)
  .exact⟨y,h1,ac⟩
  .exact⟨i,h.symm hS,ac⟩
theorem Wg{n:Nat}{S:List (Nat->Nat)}(hS:∀s∈S,Bo n s){i x:Nat}(h:¬Pc S i):F8 S (i+1) x↔F8 S i x:=by
 rw[KC hS];constructor
 .rintro (h1|h1)
  .exact h1
  .obtain⟨y,h2,h3⟩:=Ho.2 h;exact⟨y,(h1.symm hS).trans h2,h3⟩
 .exact .inl
structure EP(n:Nat)(S:List (Nat->Nat))(i:Nat)(q:List Nat)(k g:Nat):Prop where
 pos:q[0]?=some i
 nd:q.Nodup
 rch:∀x∈q,Ei S i x
 old:∀j x s,j<k->q[j]?=some x->s∈S->s x∈q
 cur:∀j x s,j<g->q[k]?=some x->S[j]?=some s->s x∈q
theorem EP.lt{n:Nat}{S:List (Nat->Nat)}(hS:∀s∈S,Bo n s){i:Nat}{q:List Nat}{k g:Nat}(hi:i<n)(h:EP n S i q k g):∀x∈q,x<n:=fun x hx=>(h.rch x hx).lt hS hi
theorem U6{q:List Nat}(aA:q.Nodup){i j:Nat}(hi:i<q.length)(hj:j<q.length)(e:q[i]=q[j]):i=j:=by
 have h:=List.pairwise_iff_getElem.1 (List.nodup_iff_pairwise_ne.1 aA);rcases Nat.lt_trichotomy i j with h1|h1|h1
 .exact absurd e (h i j hi hj h1)
 .exact h1
 .exact absurd e.symm (h j i hj hi h1)
theorem U5:∀(n:Nat) (q:List Nat),q.Nodup->(∀x∈q,x<n)->q.length<=n:=by
 intro n q aB aC;apply Γ;intro hn;have aA:∀i,i<n+1->q.getD i 0<n:=fun i hi=>by
  rw[δ,γ ac];exact aC _ (Ϙ _)
 obtain⟨x,hx,e⟩:=D9 (n+1) (fun i=>q.getD i 0) (fun i hi=>by have:=aA i hi;omega) (fun i j hi hj e=>by
  simp only[δ]at e;rw[γ ac,γ ac]at e;injection (show some q[i]=some q[j] from congrArg some e) with e;exact U6 aB ac ac e) n ac
 have:=aA x hx;omega
theorem EP.len{n:Nat}{S:List (Nat->Nat)}(hS:∀s∈S,Bo n s){i:Nat}{q:List Nat}{k g:Nat}(hi:i<n)(h:EP n S i q k g):1<=q.length/\q.length<=n:=
 ⟨by have:=(θ.1 h.pos).1;omega,U5 n q h.nd (h.lt hS hi)⟩
theorem EP.start(n:Nat)(S:List (Nat->Nat))(i:Nat):EP n S i [i] 0 0:=
 ⟨rfl,ag,fun x hx=>by rw[ϙ.1 hx];exact .refl _ _,fun j x s h=>ac,fun j x s h=>ac⟩
theorem EP.hit{n:Nat}{S:List (Nat->Nat)}{i:Nat}{q:List Nat}{k g x:Nat}{s:Nat->Nat}(h:EP n S i q k g)(hx:q[k]?=some x)(hs:S[g]?=some s)(hm:s x∈q):EP n S i q k (g+1):=
 ⟨h.pos,h.nd,h.rch,h.old,fun j y t hj hy ht=>by
  by_cases e:j=g
  .subst e;rw[hs]at ht;injection ht with ht;rw[hx]at hy;injection hy with hy;subst ht hy;exact hm
  .exact h.cur j y t ac hy ht⟩
theorem EP.new{n:Nat}{S:List (Nat->Nat)}{i:Nat}{q:List Nat}{k g x:Nat}{s:Nat->Nat}(h:EP n S i q k g)(hx:q[k]?=some x)(hs:S[g]?=some s)(hm:¬s x∈q):EP n S i (q ++ [s x]) k (g+1):=by
 have hk:=(θ.1 hx).1;have h0:=(θ.1 h.pos).1;refine⟨by rw[ο ac];exact h.pos,?_,fun y hy=>?_,fun j y t hj hy ht=>?_,fun j y t hj hy ht=>?_⟩
 .rw[List.nodup_append];exact⟨h.nd,ag,fun a ha b hb e=>by rw[ϙ.1 hb]at e;subst e;exact hm ha⟩
 .rcases List.mem_append.1 hy with h1|h1
  .exact h.rch y h1
  .rw[ϙ.1 h1];exact(h.rch x (ι hx)).trans (.of (ι hs) x)
 .rw[ο ac]at hy;exact δl _ (h.old j y t hj hy ht)
 .rw[ο hk]at hy;by_cases e:j=g
  .subst e;rw[hs]at ht;injection ht with ht;rw[hx]at hy;injection hy with hy;subst ht hy;simp
  .exact δl _ (h.cur j y t ac hy ht)
theorem EP.next{n:Nat}{S:List (Nat->Nat)}{i:Nat}{q:List Nat}{k g:Nat}(h:EP n S i q k g)(hg:S.length<=g):EP n S i q (k+1) 0:=
 ⟨h.pos,h.nd,h.rch,fun j y t hj hy ht=>by
  by_cases e:j=k
  .subst e;obtain⟨m,hm,e2⟩:=χ ht;exact h.cur m y t ac hy (by rw[γ hm,e2])
  .exact h.old j y t ac hy ht,fun j y t hj=>ac⟩
theorem EP.fin{n:Nat}{S:List (Nat->Nat)}{i:Nat}{q:List Nat}{k g:Nat}(h:EP n S i q k g)(hk:q.length<=k)(y:Nat):y∈q↔Ei S i y:=by
 refine⟨h.rch y,fun hr=>?_⟩;refine Ei.closed (C:=fun x=>x∈q) (fun s hs x hx=>?_) (ι h.pos) hr;obtain⟨j,hj,e⟩:=χ hx;exact h.old j x s ac ar hs
theorem EP.seen{n:Nat}{S:List (Nat->Nat)}{i:Nat}{q:List Nat}{k g x:Nat}{s:Nat->Nat}(hl:Pc S i)(h:EP n S i q k g)(hx:q[k]?=some x)(hs:S[g]?=some s)(hm:F8 S i (s x)∨s x∈q):s x∈q:=by
 rcases hm with⟨y,h1,h2⟩|h1
 .have:=hl y (((h.rch x (ι hx)).trans (.of (ι hs) x)).trans h1);omega
 .exact h1
def VL(q:Nat)(tl sl:List Int)(j:Nat):List (List Int × List Int):=if tl.contains (j:Int) then [] else(ξ (q-1)).map fun c=>(tl ++ [(j:Int)],sl ++ [((c+1:Nat):Int)])
def Gx(q:Nat)(tl sl:List Int)(n:Nat):List (List Int × List Int):=(ξ n).flatMap (VL q tl sl)
section
variable {σ:Type} (step:σ->List Int->List Int->σ × Int)
end
theorem TZ{q n:Nat}{tl sl:List Int}:∀x∈Gx q tl sl n,x.1.length=tl.length+1/\x.2.length=sl.length+1:=fun x hx=>by
 unfold Gx VL at hx;rw[List.mem_flatMap]at hx;obtain⟨j,-,hx⟩:=hx;split at hx
 .cases hx
 .rw[List.mem_map]at hx;obtain⟨c,-,rfl⟩:=hx;simp
section
variable (p m:Nat) (ml:List Int) (l1 l2:List (List Int)) (n:Nat)
end
section
variable {p m:Nat} {ml:List Int} {l1 l2:List (List Int)} {n:Nat} {es:List Rf}
end
end Go.Proofs.YtehieobniamagaaGreat
