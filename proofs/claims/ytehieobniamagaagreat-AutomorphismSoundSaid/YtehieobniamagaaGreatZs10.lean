/- Walk of equivalence.Inverse. -/
import Derived.Test.YtehieobniamagaaGreatZs09
namespace Go.Proofs.YtehieobniamagaaGreat
open Go.RowKit
set_option linter.all false
set_option maxRecDepth 100000
set_option maxHeartbeats 4000000
theorem fac_at{q:Nat}{l:List Int}(h:EU q l=0){i:Nat}(hi:i<l.length):∃z:Nat,l.getD i 0=(z:Int)/\1<=z/\z<q:=by
 unfold EU at h;split at h
 .cases h
 rename_i h1;split at h
 .cases h
 rename_i h2;have hm:l.getD i 0∈l:=dk;have ha:Gj q (l.getD i 0)=true:=by
  cases hb:Gj q (l.getD i 0) with
  | true=>rfl
  | false=>exact absurd (List.any_eq_true.2 ⟨_,hm,by rw[hb];rfl⟩) h1
 have hz:l.getD i 0≠0:=fun e=>h2 (List.contains_iff_mem.2 (e ▸ hm));clear hm;generalize l.getD i 0=z at *;unfold Gj at ha;simp at ha;exact⟨z.toNat,ac,ac,ac⟩
def ivS(p m:Nat)(ml sl:List Int)(bk i:Nat):Int:=((Tz p m (lw ml) (Ed p m ml (Ar (p^m) (sl.getD i 0))) bk:Nat):Int)
structure CW where
 perm:List Int
 scale:List Int
 frob:Int
def MoR(M:CW)(e:Int)(r:Ending)(w':World):Prop:=∃u v,r= .returned (.tuple #[.agg #[u,v,M.frob],e])/\Al w' u M.perm/\Al w' v M.scale
structure BxM(w:World)(b:Nat):Prop where
 c0:w.cell? (b,0)=some (.slice none 0 0)
 c1:w.cell? (b,1)=some (.slice none 0 0)
 c2:w.cell? (b,2)=some (.int .i64 0)
 f0:w.frozen? (b,0)=false
 f1:w.frozen? (b,1)=false
 f2:w.frozen? (b,2)=false
theorem BxM.new(w:World):BxM (w.alloc (.cells #[.slice none 0 0,.slice none 0 0,(0:Int)] 26)) w.heap.size:=⟨ag,ag,ag,ag,ag,ag⟩
theorem BxM.ex{w w':World}{b:Nat}(h:BxM w b)(hx:Ex w w'):BxM w' b:=⟨hx.cell h.c0,hx.cell h.c1,hx.cell h.c2,hx.frz h.c0 h.f0,hx.frz h.c1 h.f1,hx.frz h.c2 h.f2⟩
theorem Cj{w0 w:World}{q:Nat}(hx:Ex w0 w)(hq:w0.heap.size<=q)(u v z:Value):Ex w0 (((w.setCell (q,0) u).setCell (q,1) v).setCell (q,2) z):=
 ((hx.setCell (p:=(q,0)) hq _).setCell (p:=(q,1)) hq _).setCell (p:=(q,2)) hq _
theorem Fo{w:World}{q:Nat}{v:Value}{l:List Int}(h:Al w v l)(hq:∀B,v.ownBlock=some B->B≠q)(a b c:Value):Al (((w.setCell (q,0) a).setCell (q,1) b).setCell (q,2) c) v l:=
 Sl.other (Sl.other (Sl.other h (fun B e=>hq B e) _) (fun B e=>hq B e) _) (fun B e=>hq B e) _
theorem zaI{P:Prop}(h:P:=by
 obtain rfl:i=n:=by omega
 have HF:=Aa (BV aA.o);go_wp2_with fail
 go_ret;exact⟨Af HF.o.symm,q,rfl⟩):P:=h
theorem zbU{P:Prop}(h:P:=by
 go_roundg (n-(i+1))
 case measure=>omega
 case rel=>exact⟨i+1,q+q',by omega,by omega,by go_num,rfl,HA⟩):P:=h
theorem MC(w:World)(p0:Value)(v:Value)(n:Nat)(us:List Value)(hv:Sl w v n 1 us)(pr:Nat->Bool)
  (hp:∀(q i:Nat) (u:Value),us[i]?=some u->Calls Tryz.prog 117 #[u,p0] (w.drewN q) fun e w'=>e= .returned (.bool (pr i))/\∃q',w'=(w.drewN q).drewN q'):
  Calls Tryz.prog 169 #[v,.func (.func 117) #[] #[p0]] w fun r w'=>r= .returned (.int .i64 (Cv pr n))/\∃q,w'=w.drewN q:=by
 obtain⟨hl,a,cap,rfl,s1,s2,s3⟩:=hv;rw[Nat.mul_one]at hl;have S3:=Aa s3;have HP:=Aa hp;have HL:=Aa hl;unfold maxLen at s2;clear s3 hp hl;go_enter Tryz.func169,Tryz.ntmps169
 go_wp2_with fail
 go_loopg [5,8] n (fun gg _ i' wr=>∃i q:Nat,i<=n/\n-i<=gg/\i'= .int .i64 i/\wr=w.drewN q/\Hia (∀j,j<i->pr j=false))
 case atStart=>exact⟨0,0,ac,ac,rfl,rfl,Aa (fun j hj=>ac)⟩
 case round=>
  obtain⟨i,q,hi,hg,rfl,rfl,aA⟩:=hrel;by_cases hlt:i<n
  .obtain⟨u,hu⟩:∃u,us[i]?=some u:=⟨_,List.getElem?_eq_getElem a8⟩;obtain⟨bb,o,rfl,hc⟩:=S3.o ac;have c1:=hc i u hu;have HC:=Aa (HP.o q i u hu);have hlt':(i:Int)<(n:Int):=by omega
   clear hc hu
   cases hb:pr i with
   | true=>
    rw[hb]at HC;have HF:=Aa (Cy hlt hb aA.o);clear hb;go_wp2_with (go_at_call 117;refine HC.o.mono ?_;rintro e w'⟨rfl,q',rfl⟩)
    go_ret;exact⟨Af HF.o.symm,q+q',rfl⟩
   | false=>
    rw[hb]at HC;have HA:=Aa (show ∀j,j<i+1->pr j=false from fun j hj=>by
     by_cases e:j=i
     .subst e;exact hb
     .exact aA.o j ac)
    clear hb;go_wp2_with (go_at_call 117;refine HC.o.mono ?_;rintro e w'⟨rfl,q',rfl⟩)
    exact zbU
  .exact zaI
theorem JC(w:World)(p0:Value)(v:Value)(n:Nat)(us:List Value)(hv:Sl w v n 1 us)(pr:Nat->Bool)
  (hp:∀(q i:Nat) (u:Value),us[i]?=some u->Calls Tryz.prog 117 #[u,p0] (w.drewN q) fun e w'=>e= .returned (.bool (pr i))/\∃q',w'=(w.drewN q).drewN q'):
  Calls Tryz.prog 116 #[v,.func (.func 117) #[] #[p0]] w fun r w'=>r= .returned (.bool ((List.range n).any pr))/\∃q,w'=w.drewN q:=by
 have HC:=Aa (MC w p0 v n us hv pr hp);have HB:=Aa (Ee pr n);obtain⟨z,hz⟩:=nA (Cv pr n);rw[hz]at HC HB;clear hz hp hv;go_enter Tryz.func116,Tryz.ntmps116
 go_wp2_with (go_at_call 169;refine HC.o.mono ?_;rintro e w'⟨rfl,q,rfl⟩)
 go_ret;exact⟨Ap HB.o.symm,q,rfl⟩
theorem MG(w:World)(p0:Value)(v:Value)(n:Nat)(us:List Value)(hv:Sl w v n 1 us)(pr:Nat->Bool)
  (hp:∀(q i:Nat) (u:Value),us[i]?=some u->Calls Tryz.prog 176 #[u,p0] (w.drewN q) fun e w'=>e= .returned (.bool (pr i))/\∃q',w'=(w.drewN q).drewN q'):
  Calls Tryz.prog 129 #[v,.func (.func 176) #[] #[p0]] w fun r w'=>r= .returned (.int .i64 (Cv pr n))/\∃q,w'=w.drewN q:=by
 obtain⟨hl,a,cap,rfl,s1,s2,s3⟩:=hv;rw[Nat.mul_one]at hl;have S3:=Aa s3;have HP:=Aa hp;have HL:=Aa hl;unfold maxLen at s2;clear s3 hp hl;go_enter Tryz.func129,Tryz.ntmps129
 go_wp2_with fail
 go_loopg [5,8] n (fun gg _ i' wr=>∃i q:Nat,i<=n/\n-i<=gg/\i'= .int .i64 i/\wr=w.drewN q/\Hia (∀j,j<i->pr j=false))
 case atStart=>exact⟨0,0,ac,ac,rfl,rfl,Aa (fun j hj=>ac)⟩
 case round=>
  obtain⟨i,q,hi,hg,rfl,rfl,aA⟩:=hrel;by_cases hlt:i<n
  .obtain⟨u,hu⟩:∃u,us[i]?=some u:=⟨_,List.getElem?_eq_getElem a8⟩;obtain⟨bb,o,rfl,hc⟩:=S3.o ac;have c1:=hc i u hu;have HC:=Aa (HP.o q i u hu);have hlt':(i:Int)<(n:Int):=by omega
   clear hc hu
   cases hb:pr i with
   | true=>
    rw[hb]at HC;have HF:=Aa (Cy hlt hb aA.o);clear hb;go_wp2_with (go_at_call 176;refine HC.o.mono ?_;rintro e w'⟨rfl,q',rfl⟩)
    go_ret;exact⟨Af HF.o.symm,q+q',rfl⟩
   | false=>
    rw[hb]at HC;have HA:=Aa (show ∀j,j<i+1->pr j=false from fun j hj=>by
     by_cases e:j=i
     .subst e;exact hb
     .exact aA.o j ac)
    clear hb;go_wp2_with (go_at_call 176;refine HC.o.mono ?_;rintro e w'⟨rfl,q',rfl⟩)
    exact zbU
  .exact zaI
theorem JD(w:World)(p0:Value)(v:Value)(n:Nat)(us:List Value)(hv:Sl w v n 1 us)(pr:Nat->Bool)
  (hp:∀(q i:Nat) (u:Value),us[i]?=some u->Calls Tryz.prog 176 #[u,p0] (w.drewN q) fun e w'=>e= .returned (.bool (pr i))/\∃q',w'=(w.drewN q).drewN q'):
  Calls Tryz.prog 71 #[v,.func (.func 176) #[] #[p0]] w fun r w'=>r= .returned (.bool ((List.range n).any pr))/\∃q,w'=w.drewN q:=by
 have HC:=Aa (MG w p0 v n us hv pr hp);have HB:=Aa (Ee pr n);obtain⟨z,hz⟩:=nA (Cv pr n);rw[hz]at HC HB;clear hz hp hv;go_enter Tryz.func71,Tryz.ntmps71
 go_wp2_with (go_at_call 129;refine HC.o.mono ?_;rintro e w'⟨rfl,q,rfl⟩)
 go_ret;exact⟨Ap HB.o.symm,q,rfl⟩
theorem Ea:∀(n:Nat) (f:Nat->Nat),(∀i,i<n->f i<n)->(∀i j,i<n->j<n->f i=f j->i=j)->∀y,y<n->∃x,x<n/\f x=y
 | 0,f,_,_,y,hy=>absurd hy (by omega)
 | n+1,f,h1,h2,y,hy=>by
  have hn:=h1 n ac;by_cases hm:f n=n
  .by_cases hyn:y=n
   .exact⟨n,ac,ac⟩
   .obtain⟨x,hx,e⟩:=Ea n f (fun i hi=>by
     have h3:=h1 i ac;have h4:f i≠n:=fun e=>by
      have:=h2 i n ac ac ac;omega
     omega) (fun i j hi hj e=>h2 i j ac ac e) y ac
    exact⟨x,ac,e⟩
  .have aA:=Ea n (fun i=>if f i=n then f n else f i) (fun i hi=>by
     split
     .omega
     .have:=h1 i ac;omega) (fun i j hi hj e=>by
     split at e <;> split at e
     .exact h2 i j ac ac ac
     .have:=h2 n j ac ac e;omega
     .have:=h2 i n ac ac e;omega
     .exact h2 i j ac ac e)
   by_cases hy1:y=f n
   .exact⟨n,ac,hy1.symm⟩
   .by_cases hyn:y=n
    .obtain⟨x,hx,e⟩:=aA (f n) ac;split at e
     .rename_i h;exact⟨x,ac,ac⟩
     .have:=h2 x n ac ac e;omega
    .obtain⟨x,hx,e⟩:=aA y ac;split at e
     .omega
     .exact⟨x,ac,e⟩
structure Be(n:Nat)(f:Nat->Nat):Prop where
 lt:∀i,i<n->f i<n
 off:∀i,n<=i->f i=i
 inj:∀i j,f i=f j->i=j
def Ek:Nat->Nat:=fun i=>i
def Aq(f g:Nat->Nat):Nat->Nat:=fun i=>g (f i)
def A8(n:Nat)(f:Nat->Nat):Nat->Nat:=fun j=>if j<n then((List.range n).find? fun i=>f i==j).getD 0 else j
theorem Fk(n:Nat):Be n Ek:=⟨fun _ h=>h,fun _ _=>rfl,fun _ _ h=>h⟩
theorem Be.of_inj{n:Nat}{f:Nat->Nat}(h1:∀i,i<n->f i<n)(h2:∀i,n<=i->f i=i)(h3:∀i j,i<n->j<n->f i=f j->i=j):Be n f:=
 ⟨h1,h2,fun i j e=>by
  by_cases hi:i<n <;> by_cases hj:j<n
  .exact h3 i j hi hj e
  .have:=h1 i hi;have:=h2 j ac;omega
  .have:=h1 j hj;have:=h2 i ac;omega
  .have:=h2 i ac;have:=h2 j ac;omega⟩
theorem Be.comp{n:Nat}{f g:Nat->Nat}(hf:Be n f)(hg:Be n g):Be n (Aq f g):=
 ⟨fun i hi=>hg.lt _ (hf.lt i hi),fun i hi=>by show g (f i)=i;rw[hf.off i hi,hg.off i hi],fun i j e=>hf.inj i j (hg.inj _ _ e)⟩
theorem Be.surj{n:Nat}{f:Nat->Nat}(hf:Be n f){y:Nat}(hy:y<n):∃x,x<n/\f x=y:=
 Ea n f hf.lt (fun i j _ _ e=>hf.inj i j e) y hy
theorem Be.lt_iff{n:Nat}{f:Nat->Nat}(hf:Be n f)(i:Nat):f i<n↔i<n:=
 ⟨fun h=>by
  by_cases hi:i<n
  .exact hi
  .have:=hf.off i ac;omega,hf.lt i⟩
theorem Be.inv_l{n:Nat}{f:Nat->Nat}(hf:Be n f)(i:Nat):A8 n f (f i)=i:=by
 unfold A8;by_cases hi:i<n
 .rw[if_pos (hf.lt i hi)]
  cases h:(List.range n).find? fun k=>f k==f i with
  | none=>
   have:=List.find?_eq_none.1 h i (List.mem_range.2 hi);simp at this
  | some k=>
   have:=List.find?_some h;exact hf.inj k i dr
 .rw[if_neg (by rw[hf.off i ac];exact hi),hf.off i ac]
theorem Be.inv_r{n:Nat}{f:Nat->Nat}(hf:Be n f)(j:Nat):f (A8 n f j)=j:=by
 by_cases hj:j<n
 .obtain⟨x,hx,rfl⟩:=hf.surj hj;rw[hf.inv_l]
 .have h1:A8 n f j=j:=by unfold A8;rw[if_neg hj]
  rw[h1,hf.off j ac]
theorem Be.inv{n:Nat}{f:Nat->Nat}(hf:Be n f):Be n (A8 n f):=
 ⟨fun i hi=>by
   have:=(hf.lt_iff (A8 n f i)).1 (by rw[hf.inv_r];exact hi);exact this,fun i hi=>by unfold A8;rw[if_neg ac],fun i j e=>by
   have:=congrArg f e
   rwa[hf.inv_r,hf.inv_r]at this⟩
theorem EY(f g h:Nat->Nat):Aq (Aq f g) h=Aq f (Aq g h):=rfl
theorem Be.then_inv{n:Nat}{f:Nat->Nat}(hf:Be n f):Aq f (A8 n f)=Ek:=funext fun i=>hf.inv_l i
theorem Be.inv_then{n:Nat}{f:Nat->Nat}(hf:Be n f):Aq (A8 n f) f=Ek:=funext fun i=>hf.inv_r i
theorem Be.inv_unique{n:Nat}{f g:Nat->Nat}(hf:Be n f)(h:Aq f g=Ek):g=A8 n f:=by
 have:Aq (A8 n f) (Aq f g)=Aq (A8 n f) Ek:=by rw[h]
 rw[<-EY,hf.inv_then]at this;exact this
theorem Om(n:Nat):A8 n Ek=Ek:=((Fk n).inv_unique rfl).symm
theorem Be.cancel{n:Nat}{f r:Nat->Nat}(hr:Be n r):Aq (Aq f (A8 n r)) r=f:=by
 rw[EY,hr.inv_then];rfl
theorem G5{n:Nat}{f g:Nat->Nat}(hf:Be n f)(hg:Be n g)(h:∀i,i<n->f i=g i):f=g:=
 funext fun i=>by
  by_cases hi:i<n
  .exact h i hi
  .rw[hf.off i ac,hg.off i ac]
def KW(f:Nat->Nat):Nat->Nat->Nat
 | 0=>Ek
 | k+1=>Aq (KW f k) f
theorem NZ(f:Nat->Nat)(a b:Nat):KW f (a+b)=Aq (KW f a) (KW f b):=by
 induction b with
 | zero=>rfl
 | succ b ih=>show Aq (KW f (a+b)) f=_;rw[ih];rfl
theorem Lh{n:Nat}{f:Nat->Nat}(hf:Be n f):∀k,Be n (KW f k)
 | 0=>Fk n
 | k+1=>(Lh hf k).comp hf
theorem JQ{f:Nat->Nat}{i k:Nat}(h:KW f k i=i):∀m,KW f (k*m) i=i
 | 0=>rfl
 | m+1=>by
  rw[Nat.mul_succ,NZ];show KW f k (KW f (k*m) i)=i
  rw[JQ h m,h]
theorem Be.back{n:Nat}{f:Nat->Nat}(hf:Be n f){i:Nat}(hi:i<n):∃k,1<=k/\k<=n/\KW f k i=i:=by
 have aE:¬∀a b,a<n+1->b<n+1->KW f a i=KW f b i->a=b:=fun aA=>by
  obtain⟨x,hx,e⟩:=Ea (n+1) (fun a=>KW f a i) (fun a _=>by have:=(Lh hf a).lt i hi;omega) aA n ac;have:=(Lh hf x).lt i hi;omega
 have aD:∃a b,a<b/\b<n+1/\KW f a i=KW f b i:=by
  apply Classical.byContradiction;intro aB;refine aE fun a b ha hb e=>?_;apply Classical.byContradiction;intro aC;rcases Nat.lt_or_gt_of_ne aC with h|h
  .exact aB ⟨a,b,h,hb,e⟩
  .exact aB ⟨b,a,h,ha,e.symm⟩
 obtain⟨a,b,aC,hb,e⟩:=aD;refine⟨b-a,ac,ac,?_⟩;have h1:KW f b=Aq (KW f (b-a)) (KW f a):=by rw[<-NZ];congr 1;omega
 rw[h1]at e;exact((Lh hf a).inj _ _ e).symm
def Qv:Nat->Nat
 | 0=>1
 | k+1=>(k+1)*Qv k
theorem Qs:∀k,1<=Qv k
 | 0=>Nat.le_refl _
 | k+1=>Nat.mul_pos (by omega) (Qs k)
theorem Qu:∀n k,1<=k->k<=n->k ∣ Qv n
 | 0,k,h1,h2=>by omega
 | n+1,k,h1,h2=>by
  by_cases h:k=n+1
  .subst h;exact Nat.dvd_mul_right _ _
  .exact Nat.dvd_trans (Qu n k h1 (by omega)) (Nat.dvd_mul_left _ _)
theorem Be.pw_fac{n:Nat}{f:Nat->Nat}(hf:Be n f):KW f (Qv n)=Ek:=by
 refine G5 (Lh hf _) (Fk n) fun i hi=>?_;obtain⟨k,h1,h2,h3⟩:=hf.back hi;obtain⟨m,hm⟩:=Qu n k h1 h2;rw[hm];exact JQ h3 m
inductive Gn(S:List (Nat->Nat)):(Nat->Nat)->Prop
 | one:Gn S Ek
 | step {f g:Nat->Nat}:Gn S f->g∈S->Gn S (Aq f g)
structure XY(n:Nat)(H:(Nat->Nat)->Prop):Prop where
 one:H Ek
 mul:∀f g,H f->H g->H (Aq f g)
 inv:∀f,H f->H (A8 n f)
 isP:∀f,H f->Be n f
theorem Gn.mul{S:List (Nat->Nat)}{f g:Nat->Nat}(hf:Gn S f)(hg:Gn S g):Gn S (Aq f g):=by
 induction hg with
 | one=>exact hf
 | step _ h ih=>exact ih.step h
theorem Gn.of{S:List (Nat->Nat)}{g:Nat->Nat}(h:g∈S):Gn S g:=Gn.one.step h
theorem Gn.isP{n:Nat}{S:List (Nat->Nat)}(hS:∀s∈S,Be n s){f:Nat->Nat}(h:Gn S f):Be n f:=by
 induction h with
 | one=>exact Fk n
 | step _ h ih=>exact ih.comp (hS _ h)
theorem Gn.pw{S:List (Nat->Nat)}{f:Nat->Nat}(h:Gn S f):∀k,Gn S (KW f k)
 | 0=>Gn.one
 | k+1=>(h.pw k).mul h
theorem Gn.inv{n:Nat}{S:List (Nat->Nat)}(hS:∀s∈S,Be n s){f:Nat->Nat}(h:Gn S f):Gn S (A8 n f):=by
 have hf:=h.isP hS;have h1:Aq f (KW f (Qv n-1))=Ek:=by
  have:KW f (1+(Qv n-1))=Ek:=by
   rw[show 1+(Qv n-1)=Qv n from by have:=Qs n;omega];exact hf.pw_fac
  rw[NZ]at this;exact this
 rw[<-hf.inv_unique h1];exact h.pw _
theorem Gn.grp{n:Nat}{S:List (Nat->Nat)}(hS:∀s∈S,Be n s):XY n (Gn S):=
 ⟨.one,fun _ _=> .mul,fun _=> .inv hS,fun _ h=>Gn.isP hS h⟩
theorem Gn.sub{n:Nat}{S:List (Nat->Nat)}{H:(Nat->Nat)->Prop}(hH:XY n H)(hS:∀s∈S,H s){f:Nat->Nat}(h:Gn S f):H f:=by
 induction h with
 | one=>exact hH.one
 | step _ h ih=>exact hH.mul _ _ ih (hS _ h)
theorem Gn.mono{S T:List (Nat->Nat)}(hS:∀s∈S,Gn T s){f:Nat->Nat}(h:Gn S f):Gn T f:=by
 induction h with
 | one=>exact .one
 | step _ h ih=>exact ih.mul (hS _ h)
def A5(b:Nat)(f:Nat->Nat):Prop:=∀i,i<b->f i=i
theorem Jr(b:Nat):A5 b Ek:=fun _ _=>rfl
theorem A5.comp{b:Nat}{f g:Nat->Nat}(hf:A5 b f)(hg:A5 b g):A5 b (Aq f g):=fun i hi=>by
 show g (f i)=i;rw[hf i hi,hg i hi]
theorem A5.inv{n b:Nat}{f:Nat->Nat}(hP:Be n f)(hf:A5 b f):A5 b (A8 n f):=fun i hi=>by
 have:=hP.inv_l i;rw[hf i hi]at this;exact this
theorem A5.all{n:Nat}{f:Nat->Nat}(hP:Be n f)(hf:A5 n f):f=Ek:=G5 hP (Fk n) hf
theorem A5.div{n b:Nat}{f r:Nat->Nat}(hr:Be n r)(hf:A5 b f)(aA:A5 b r)(e:r b=f b):A5 (b+1) (Aq f (A8 n r)):=fun i hi=>by
 by_cases h:i=b
 .subst h;show A8 n r (f i)=i;rw[<-e];exact hr.inv_l i
 .exact A5.comp hf (A5.inv hr aA) i ac
structure Tw where
 R:Nat->Nat->Option (Nat->Nat)
 g:Nat->List (Nat->Nat)
def DL(n:Nat)(R:Nat->Nat->Option (Nat->Nat)):Nat->Nat->(Nat->Nat)->(Nat->Nat) × Nat
 | 0,b,f=>(f,b)
 | k+1,b,f=>match R b (f b) with
  | none=>(f,b)
  | some r=>DL n R k (b+1) (Aq f (A8 n r))
def Sf(n:Nat)(R:Nat->Nat->Option (Nat->Nat)):Nat->Nat->(Nat->Nat)->Prop
 | 0,_,_=>True
 | k+1,b,f=>∃r,R b (f b)=some r/\Sf n R k (b+1) (Aq f (A8 n r))
theorem MR(n:Nat)(R:Nat->Nat->Option (Nat->Nat)):∀k b f,b<=(DL n R k b f).2/\(DL n R k b f).2<=b+k
 | 0,b,f=>⟨Nat.le_refl _,Nat.le_refl _⟩
 | k+1,b,f=>by
  unfold DL;split
  .exact⟨Nat.le_refl _,by dsimp only;omega⟩
  .have:=MR n R k (b+1) (Aq f (A8 n ‹_›));omega
theorem Ri(n:Nat)(R:Nat->Nat->Option (Nat->Nat)):∀k b f,Sf n R k b f↔(DL n R k b f).2=b+k
 | 0,b,f=>⟨fun _=>rfl,fun _=>trivial⟩
 | k+1,b,f=>by
  unfold DL Sf
  cases h:R b (f b) with
  | none=>exact⟨fun ⟨r,h1,_⟩=>by exact(nomatch h1),fun h1=>by have h1:b=b+(k+1):=h1;omega⟩
  | some r=>
   dsimp only;rw[show b+(k+1)=b+1+k by omega,<-Ri n R k (b+1)];exact⟨fun ⟨r',h1,h2⟩=>by injection h1 with h1;subst h1;exact h2,fun h=>⟨r,rfl,h⟩⟩
theorem Sf.mono{n:Nat}{R R':Nat->Nat->Option (Nat->Nat)}(hR:∀b x r,R b x=some r->R' b x=some r):∀ {k b f},Sf n R k b f->Sf n R' k b f
 | 0,_,_,_=>trivial
 | k+1,b,f,⟨r,h1,h2⟩=>⟨r,hR _ _ _ h1,h2.mono hR⟩
theorem Sf.congr{n c:Nat}{R R':Nat->Nat->Option (Nat->Nat)}(hR:∀b x,c<=b->R b x=R' b x):∀ {k b f},c<=b->Sf n R k b f->Sf n R' k b f
 | 0,_,_,_,_=>trivial
 | k+1,b,f,hb,⟨r,h1,h2⟩=>⟨r,by rw[<-hR b _ hb];exact h1,h2.congr hR (by omega)⟩
structure C7(n:Nat)(t:Tw):Prop where
 rep:∀b x r,t.R b x=some r->b<n/\x<n/\Be n r/\A5 b r/\r b=x
 one:∀b,b<n->t.R b b=some Ek
 gen:∀b h,h∈t.g b->Be n h/\A5 b h
theorem VA{n:Nat}{t:Tw}(hG:C7 n t):∀k b,b+k<=n->Sf n t.R k b Ek
 | 0,_,_=>trivial
 | k+1,b,h=>⟨Ek,hG.one b (by omega),by rw[Om];exact VA hG k (b+1) (by omega)⟩
def FL(n:Nat)(R:Nat->Nat->Option (Nat->Nat))(b:Nat)(q:Nat->Nat):Prop:=
 ∃r,R b (q b)=some r/\Sf n R (n-(b+1)) (b+1) (Aq q (A8 n r))
theorem FL.mono{n b:Nat}{R R':Nat->Nat->Option (Nat->Nat)}(hR:∀b x r,R b x=some r->R' b x=some r){q:Nat->Nat}(h:FL n R b q):FL n R' b q:=by
 obtain⟨r,h1,h2⟩:=h;exact⟨r,hR _ _ _ h1,h2.mono hR⟩
theorem FL.congr{n b:Nat}{R R':Nat->Nat->Option (Nat->Nat)}(hR:∀c x,b<=c->R c x=R' c x){q:Nat->Nat}(h:FL n R b q):FL n R' b q:=by
 obtain⟨r,h1,h2⟩:=h;exact⟨r,by rw[<-hR b _ (Nat.le_refl _)];exact h1,h2.congr hR ac⟩
structure DJ(n:Nat)(t:Tw)(c:Nat):Prop where
 done:∀x r,t.R c x=some r->∀h∈t.g c,FL n t.R c (Aq r h)
 rep:∀c' x r,c<=c'->t.R c' x=some r->Gn (t.g c) r
 gen:∀c' h,c<=c'->h∈t.g c'->Gn (t.g c) h
theorem DJ.congr{n c:Nat}{t t':Tw}(h:DJ n t c)(hR:∀b x,c<=b->t.R b x=t'.R b x)(hg:∀b,c<=b->t.g b=t'.g b):DJ n t' c:=
 ⟨fun x r hr k hk=>(h.done x r (by rw[hR _ _ (Nat.le_refl _)];exact hr) k (by rw[hg _ (Nat.le_refl _)];exact hk)).congr hR,
 fun c' x r hc hr=>by rw[<-hg _ (Nat.le_refl _)];exact h.rep c' x r hc (by rw[hR _ _ hc];exact hr),
 fun c' k hc hk=>by rw[<-hg _ (Nat.le_refl _)];exact h.gen c' k hc (by rw[hg _ hc];exact hk)⟩
theorem Vz{n:Nat}{t:Tw}{H:(Nat->Nat)->Prop}(hG:C7 n t)(hH:XY n H):∀k b f,b+k=n->(∀c x r,b<=c->t.R c x=some r->H r)->Be n f->A5 b f->Sf n t.R k b f->H f
 | 0,b,f,hb,_,hP,hF,_=>by
  have:b=n:=ac;subst this;rw[hF.all hP];exact hH.one
 | k+1,b,f,hb,hr,hP,hF,⟨r,h1,h2⟩=>by
  obtain⟨_,_,h3,h4,h5⟩:=hG.rep _ _ _ h1;have:=Vz hG hH k (b+1) (Aq f (A8 n r)) ac (fun c x r' hc=>hr c x r' ac) (hP.comp h3.inv) (hF.div h3 h4 h5) h2;have h6:=hH.mul _ _ this (hr _ _ _ (Nat.le_refl _) h1)
  rwa[h3.cancel]at h6
theorem VB{n:Nat}{t:Tw}(hG:C7 n t):∀k b,b+(k+1)=n->(∀c,b<=c->c<n->DJ n t c)->∀f,Be n f->A5 b f->(Sf n t.R (k+1) b f↔Gn (t.g b) f)
 | k,b,hb,hC,f,hP,hF=>by
  have aG:XY n (Gn (t.g b)):=Gn.grp fun s hs=>(hG.gen _ _ hs).1;refine⟨fun h=>Vz hG aG (k+1) b f hb (fun c x r hc hr=>(hC b (Nat.le_refl _) ac).rep c x r hc hr) hP hF h,fun h=>?_⟩;clear hF hP
  induction h with
  | one=>exact VA hG _ _ ac
  | @step f s hf hs ih=>
   have aD:=hf.isP fun s hs=>(hG.gen _ _ hs).1;have aE:A5 b f:=by
    clear ih
    induction hf with
    | one=>exact Jr _
    | step hf' hs' ih'=>exact(ih' (hf'.isP fun s hs=>(hG.gen _ _ hs).1)).comp (hG.gen _ _ hs').2
   obtain⟨r,h1,h2⟩:=ih;obtain⟨_,_,h3,h4,h5⟩:=hG.rep _ _ _ h1;obtain⟨r',h6,h7⟩:=(hC b (Nat.le_refl _) ac).done _ _ h1 s hs;obtain⟨_,_,h8,h9,aH⟩:=hG.rep _ _ _ h6;have aA:=(hG.gen _ _ hs);have e1:(Aq r s) b=(Aq f s) b:=by show s (r b)=s (f b);rw[h5]
   refine⟨r',by rw[<-e1];exact h6,?_⟩;have e2:Aq (Aq f s) (A8 n r')=Aq (Aq f (A8 n r)) (Aq (Aq r s) (A8 n r')):=by
    conv=>lhs;rw[<-h3.cancel (f:=f)]
    rfl
   rw[e2];have hk:n-(b+1)=k:=ac;rw[hk]at h7;have hA:=aE.div h3 h4 h5;have hB:A5 (b+1) (Aq (Aq r s) (A8 n r')):=(h4.comp aA.2).div h8 h9 (by rw[aH]);have aC:=aD.comp h3.inv;have aB:=(h3.comp aA.1).comp h8.inv
   cases k with
   | zero=>trivial
   | succ k=>
    have IH:=VB hG k (b+1) ac fun c hc aF=>hC c ac aF;exact(IH _ (aC.comp aB) (hA.comp hB)).2 (((IH _ aC hA).1 h2).mul ((IH _ aB hB).1 h7))
def J7(H:(Nat->Nat)->Prop)(b:Nat)(t:Tw):Prop:=(∀c x r,b<=c->t.R c x=some r->H r)/\∀c h,b<=c->h∈t.g c->H h
theorem J7.up{H:(Nat->Nat)->Prop}{b c:Nat}{t:Tw}(h:J7 H b t)(hc:b<=c):J7 H c t:=⟨fun c' x r h1=>h.1 c' x r ac,fun c' x h1=>h.2 c' x ac⟩
def IX(b:Nat)(t t':Tw):Prop:=∀c,c<b->(∀x,t'.R c x=t.R c x)/\t'.g c=t.g c
theorem IX.refl(b:Nat)(t:Tw):IX b t t:=fun _ _=>⟨fun _=>rfl,rfl⟩
theorem IX.trans{b:Nat}{t u v:Tw}(h:IX b t u)(k:IX b u v):IX b t v:=fun c hc=>⟨fun x=>by rw[(k c hc).1,(h c hc).1],by rw[(k c hc).2,(h c hc).2]⟩
theorem IX.down{b c:Nat}{t u:Tw}(h:IX b t u)(hc:c<=b):IX c t u:=fun d hd=>h d ac
def Sv(t t':Tw):Prop:=∀b x r,t.R b x=some r->t'.R b x=some r
theorem Sv.trans{t u v:Tw}(h:Sv t u)(k:Sv u v):Sv t v:=fun b x r hr=>k b x r (h b x r hr)
structure Q6(n b:Nat)(p:Nat->Nat)(t t':Tw):Prop where
 good:C7 n t'
 low:IX b t t'
 le:Sv t t'
 comp:∀c,b<=c->c<n->DJ n t' c
 mem:Sf n t'.R (n-b) b p
 snd:∀H,XY n H->J7 H b t->H p->J7 H b t'
structure XQ(n b:Nat)(q:Nat->Nat)(t t':Tw):Prop where
 good:C7 n t'
 low:IX b t t'
 le:Sv t t'
 gb:t'.g b=t.g b
 comp:∀c,b+1<=c->c<n->DJ n t' c
 done:FL n t'.R b q
 new:∀x r,t.R b x=none->t'.R b x=some r->∀h∈t.g b,FL n t'.R b (Aq r h)
 snd:∀H,XY n H->J7 H b t->H q->J7 H b t'
theorem Q6.same{n b:Nat}{p:Nat->Nat}{t:Tw}(hG:C7 n t)(hC:∀c,b<=c->c<n->DJ n t c)(h:Sf n t.R (n-b) b p):Q6 n b p t t:=
 ⟨hG,IX.refl _ _,fun _ _ _ h=>h,hC,h,fun _ _ h _=>h⟩
theorem Q6.vis{n b:Nat}{q r:Nat->Nat}{t t':Tw}(hb:b<n)(hG:C7 n t)(hr:t.R b (q b)=some r)(h:Q6 n (b+1) (Aq q (A8 n r)) t t'):XQ n b q t t':=
 ⟨h.good,h.low.down ac,h.le,(h.low b ac).2,h.comp,⟨r,h.le _ _ _ hr,h.mem⟩,fun x r' h1 h2=>by
  rw[(h.low b ac).1 x,h1]at h2;exact(nomatch h2),fun H hH hS hq=>by
  have h1:=h.snd H hH (hS.up ac) (hH.mul _ _ hq (hH.inv _ (hS.1 _ _ _ (Nat.le_refl _) hr)));refine⟨fun c x r' hc aA=>?_,fun c k hc hk=>?_⟩
  .by_cases e:c=b
   .subst e;rw[(h.low c ac).1 x]at aA;exact hS.1 c x r' (Nat.le_refl _) aA
   .exact h1.1 c x r' ac aA
  .by_cases e:c=b
   .subst e;rw[(h.low c ac).2]at hk;exact hS.2 c k (Nat.le_refl _) hk
   .exact h1.2 c k ac hk⟩
def Ml(t:Tw)(b x:Nat)(q:Nat->Nat):Tw:=⟨fun c y=>if c=b/\y=x then some q else t.R c y,t.g⟩
def Sk(t:Tw)(b:Nat)(p:Nat->Nat):Tw:=⟨t.R,fun c=>if c=b then t.g c ++ [p] else t.g c⟩
structure OX(n b:Nat)(q:Nat->Nat)(t t':Tw)(k:Nat):Prop where
 good:C7 n t'
 low:IX b t t'
 le:Sv t t'
 gb:t'.g b=t.g b
 comp:∀c,b+1<=c->c<n->DJ n t' c
 rep:t'.R b (q b)=some q
 done:∀j h,j<k->(t.g b)[j]?=some h->FL n t'.R b (Aq q h)
 new:∀x r,x≠q b->t.R b x=none->t'.R b x=some r->∀h∈t.g b,FL n t'.R b (Aq r h)
 snd:∀H,XY n H->J7 H b t->H q->J7 H b t'
theorem OX.start{n b:Nat}{q:Nat->Nat}{t:Tw}(hb:b<n)(hG:C7 n t)(hC:∀c,b+1<=c->c<n->DJ n t c)(hP:Be n q)(hF:A5 b q)(hr:t.R b (q b)=none):OX n b q t (Ml t b (q b) q) 0:=by
 have aA:Sv t (Ml t b (q b) q):=fun c x r h=>by
  show(if c=b/\x=q b then some q else t.R c x)=some r
  split
  .rename_i e;rw[e.1,e.2,hr]at h;cases h
  .exact h
 refine⟨⟨fun c x r h=>?_,fun c hc=>aA _ _ _ (hG.one c hc),hG.gen⟩,fun c hc=>⟨fun x=>?_,rfl⟩,aA,rfl,fun c hc aB=>(hC c hc aB).congr (fun d x hd=>?_) (fun _ _=>rfl),?_,fun j h hj=>ac,fun x r hx h1 h2=>?_,fun H hH hS hq=>⟨fun c x r hc h=>?_,hS.2⟩⟩
 .have h:(if c=b/\x=q b then some q else t.R c x)=some r:=h;split at h
  .rename_i e;injection h with h;subst h;rw[e.1,e.2];exact⟨hb,hP.lt _ hb,hP,hF,rfl⟩
  .exact hG.rep c x r h
 .show(if c=b/\x=q b then some q else t.R c x)=t.R c x
  rw[if_neg ac]
 .show t.R d x=(if d=b/\x=q b then some q else t.R d x)
  rw[if_neg ac]
 .show(if b=b/\q b=q b then some q else t.R b (q b))=some q
  rw[if_pos ⟨rfl,rfl⟩]
 .have h2:(if b=b/\x=q b then some q else t.R b x)=some r:=h2;rw[if_neg (fun e=>hx e.2),h1]at h2;cases h2
 .have h:(if c=b/\x=q b then some q else t.R c x)=some r:=h;split at h
  .injection h with h;subst h;exact hq
  .exact hS.1 c x r hc h
theorem OX.step{n b k:Nat}{q h:Nat->Nat}{t u v:Tw}(hl:OX n b q t u k)(hk:(t.g b)[k]?=some h)(hv:XQ n b (Aq q h) u v):OX n b q t v (k+1):=
 ⟨hv.good,hl.low.trans hv.low,hl.le.trans hv.le,by rw[hv.gb,hl.gb],hv.comp,hv.le _ _ _ hl.rep,fun j s hj hs=>by
  by_cases e:j=k
  .subst e;rw[hk]at hs;injection hs with hs;subst hs;exact hv.done
  .exact(hl.done j s ac hs).mono hv.le,fun x r hx h1 h2 s hs=>by
  cases hu:u.R b x with
  | none=>exact hv.new x r hu h2 s (by rw[hl.gb];exact hs)
  | some r'=>
   have h3:=hv.le _ _ _ hu;rw[h2]at h3;injection h3 with h3;subst h3;exact(hl.new x r hx h1 hu s hs).mono hv.le,fun H hH hS hq=>by
  have h1:=hl.snd H hH hS hq;exact hv.snd H hH h1 (hH.mul _ _ hq (h1.2 b h (Nat.le_refl _) (by rw[hl.gb];exact List.mem_of_getElem? hk)))⟩
theorem OX.fin{n b k:Nat}{q:Nat->Nat}{t u:Tw}(hb:b<n)(hP:Be n q)(hl:OX n b q t u k)(hk:(t.g b).length<=k):XQ n b q t u:=
 ⟨hl.good,hl.low,hl.le,hl.gb,hl.comp,⟨q,hl.rep,by rw[hP.then_inv];exact VA hl.good _ _ ac⟩,fun x r h1 h2 s hs=>by
  by_cases e:x=q b
  .subst e;rw[hl.rep]at h2;injection h2 with h2;subst h2;obtain⟨j,hj,e⟩:=List.getElem_of_mem hs;exact hl.done j s ac ar
  .exact hl.new x r e h1 h2 s hs,hl.snd⟩
structure J8(n b:Nat)(p:Nat->Nat)(t t':Tw)(x:Nat):Prop where
 good:C7 n t'
 low:IX b t t'
 le:Sv t t'
 gb:t'.g b=t.g b ++ [p]
 comp:∀c,b+1<=c->c<n->DJ n t' c
 old:∀y r,y<x->t.R b y=some r->FL n t'.R b (Aq r p)
 new:∀y r,t.R b y=none->t'.R b y=some r->∀h∈t'.g b,FL n t'.R b (Aq r h)
 snd:∀H,XY n H->J7 H b t->H p->J7 H b t'
theorem J8.start{n b:Nat}{p:Nat->Nat}{t:Tw}(hG:C7 n t)(hC:∀c,b+1<=c->c<n->DJ n t c)(hP:Be n p)(hF:A5 b p):J8 n b p t (Sk t b p) 0:=by
 refine⟨⟨hG.rep,hG.one,fun c h hh=>?_⟩,fun c hc=>⟨fun _=>rfl,?_⟩,fun _ _ _ h=>h,?_,fun c hc aA=>(hC c hc aA).congr (fun _ _ _=>rfl) (fun d hd=>?_),fun y r hy=>ac,fun y r h1 h2=>?_,fun H hH hS hp=>⟨hS.1,fun c h hc hh=>?_⟩⟩
 .have h2:h∈(if c=b then t.g c ++ [p] else t.g c):=hh;by_cases e:c=b
  .subst e;rw[if_pos rfl]at h2;rcases List.mem_append.1 h2 with h1|h1
   .exact hG.gen c h h1
   .rw[List.mem_singleton.1 h1];exact⟨hP,hF⟩
  .rw[if_neg e]at h2;exact hG.gen c h h2
 .show(if c=b then t.g c ++ [p] else t.g c)=t.g c
  rw[if_neg ac]
 .show(if b=b then t.g b ++ [p] else t.g b)=_
  rw[if_pos rfl]
 .show t.g d=(if d=b then t.g d ++ [p] else t.g d)
  rw[if_neg ac]
 .have h2:t.R b y=some r:=h2;rw[h1]at h2;cases h2
 .have hh:h∈(if c=b then t.g c ++ [p] else t.g c):=hh;split at hh
  .rcases List.mem_append.1 hh with h1|h1
   .exact hS.2 c h hc h1
   .rw[List.mem_singleton.1 h1];exact hp
  .exact hS.2 c h hc hh
theorem J8.skip{n b x:Nat}{p:Nat->Nat}{t u:Tw}(hl:J8 n b p t u x)(h:t.R b x=none):J8 n b p t u (x+1):=
 ⟨hl.good,hl.low,hl.le,hl.gb,hl.comp,fun y r hy hr=>by
  by_cases e:y=x
  .subst e;rw[h]at hr;cases hr
  .exact hl.old y r ac hr,hl.new,hl.snd⟩
theorem J8.step{n b x:Nat}{p r:Nat->Nat}{t u v:Tw}(hl:J8 n b p t u x)(hr:t.R b x=some r)(hv:XQ n b (Aq r p) u v):J8 n b p t v (x+1):=
 ⟨hv.good,hl.low.trans hv.low,hl.le.trans hv.le,by rw[hv.gb,hl.gb],hv.comp,fun y r' hy aA=>by
  by_cases e:y=x
  .subst e;rw[hr]at aA;injection aA with aA;subst aA;exact hv.done
  .exact(hl.old y r' ac aA).mono hv.le,fun y r' h1 h2 s hs=>by
  rw[hv.gb]at hs
  cases hu:u.R b y with
  | none=>exact hv.new y r' hu h2 s hs
  | some r''=>
   have h3:=hv.le _ _ _ hu;rw[h2]at h3;injection h3 with h3;subst h3;exact(hl.new y r' h1 hu s hs).mono hv.le,fun H hH hS hp=>by
  have h1:=hl.snd H hH hS hp;exact hv.snd H hH h1 (hH.mul _ _ (h1.1 _ _ _ (Nat.le_refl _) (hl.le _ _ _ hr)) hp)⟩
theorem J8.fin{n b x:Nat}{p:Nat->Nat}{t u:Tw}(hb:b<n)(hG:C7 n t)(hC:∀c,b<=c->c<n->DJ n t c)(hP:Be n p)(hF:A5 b p)(hl:J8 n b p t u x)(hx:n<=x):Q6 n b p t u:=by
 have aE:XY n (Gn (u.g b)):=Gn.grp fun s hs=>(hl.good.gen _ _ hs).1;have hp:Gn (u.g b) p:=Gn.of (by rw[hl.gb];simp);have aA:∀f,Gn (t.g b) f->Gn (u.g b) f:=fun f hf=>hf.mono fun s hs=>Gn.of (by rw[hl.gb];exact List.mem_append_left _ hs);have hS:=hl.snd _ aE ⟨fun c x r hc hr=>aA _ ((hC b (Nat.le_refl _) hb).rep c x r hc hr),fun c k hc hk=>aA _ ((hC b (Nat.le_refl _) hb).gen c k hc hk)⟩ hp;have aD:DJ n u b:=⟨fun y r hr s hs=>by
   cases h:t.R b y with
   | none=>exact hl.new y r h hr s hs
   | some r'=>
    have h3:=hl.le _ _ _ h;rw[hr]at h3;injection h3 with h3;subst h3;rw[hl.gb]at hs;rcases List.mem_append.1 hs with h1|h1
    .exact((hC b (Nat.le_refl _) hb).done y r h s h1).mono hl.le
    .rw[List.mem_singleton.1 h1];exact hl.old y r (by have:=(hG.rep _ _ _ h).2.1;omega) h,hS.1,hS.2⟩
 have aB:∀c,b<=c->c<n->DJ n u c:=fun c hc aC=>by
  by_cases e:c=b
  .subst e;exact aD
  .exact hl.comp c ac aC
 refine⟨hl.good,hl.low,hl.le,aB,?_,hl.snd⟩;obtain⟨k,hk⟩:∃k,n-b=k+1:=⟨n-b-1,ac⟩;rw[hk];exact(VB hl.good k b ac aB p hP hF).2 hp
def N9(n:Nat):Tw:=⟨fun b x=>if b<n/\x=b then some Ek else none,fun _=> []⟩
theorem UE(n:Nat):C7 n (N9 n):=
 ⟨fun b x r h=>by
  have h:(if b<n/\x=b then some Ek else none)=some r:=h;split at h
  .rename_i e;injection h with h;subst h;exact⟨e.1,ac,Fk n,Jr _,e.2.symm⟩
  .exact(nomatch h),fun b hb=>by
  show(if b<n/\b=b then some Ek else none)=some Ek
  rw[if_pos ⟨hb,rfl⟩],fun _ _ h=>by cases h⟩
theorem UF(n c:Nat):DJ n (N9 n) c:=
 ⟨fun _ _ _ _ h=>by (first|cases h|exact absurd h (List.not_mem_nil)),fun c' x r _ h=>by
  have h:(if c'<n/\x=c' then some Ek else none)=some r:=h;split at h
  .injection h with h;subst h;exact .one
  .exact(nomatch h),fun _ _ _ h=>by cases h⟩
structure IZ(n:Nat)(S:List (Nat->Nat))(t:Tw)(k:Nat):Prop where
 good:C7 n t
 comp:∀c,c<n->DJ n t c
 mem:∀j s,j<k->S[j]?=some s->Sf n t.R n 0 s
 snd:J7 (Gn S) 0 t
theorem IZ.start{n:Nat}{S:List (Nat->Nat)}:IZ n S (N9 n) 0:=
 ⟨UE n,fun c _=>UF n c,fun j s h=>ac,fun c x r _ h=>by
  have h:(if c<n/\x=c then some Ek else none)=some r:=h;split at h
  .injection h with h;subst h;exact .one
  .exact(nomatch h),fun _ _ _ h=>by cases h⟩
theorem IZ.step{n k:Nat}{S:List (Nat->Nat)}{t t':Tw}{s:Nat->Nat}(hS:∀s∈S,Be n s)(h:IZ n S t k)(hs:S[k]?=some s)(hi:Q6 n 0 s t t'):IZ n S t' (k+1):=
 ⟨hi.good,fun c hc=>hi.comp c ac hc,fun j s' hj aA=>by
  by_cases e:j=k
  .subst e;rw[hs]at aA;injection aA with aA;subst aA;exact hi.mem
  .exact(h.mem j s' ac aA).mono hi.le,hi.snd _ (Gn.grp hS) h.snd (Gn.of (List.mem_of_getElem? hs))⟩
theorem sf_up{n:Nat}{t:Tw}(hG:C7 n t){f:Nat->Nat}:∀k b,b+k=n->A5 b f->(Sf n t.R n 0 f↔Sf n t.R k b f):=by
 intro k b
 induction b generalizing k with
 | zero=>intro h _;rw[show k=n by omega]
 | succ b ih=>
  intro h hF;rw[ih (k+1) ac (fun i hi=>hF i ac)];have hb:f b=b:=hF b ac;have h1:=hG.one b ac;constructor
  .rintro⟨r,h2,h3⟩;rw[hb,h1]at h2;injection h2 with h2;subst h2;rw[Om]at h3;exact h3
  .intro h3;exact⟨Ek,by rw[hb];exact h1,by rw[Om];exact h3⟩
theorem IZ.grp{n k:Nat}{S:List (Nat->Nat)}{t:Tw}(hn:1<=n)(hS:∀s∈S,Be n s)(h:IZ n S t k)(hk:S.length<=k){b:Nat}(hb:b<=n){f:Nat->Nat}(hP:Be n f)(hF:A5 b f):Sf n t.R (n-b) b f↔Gn S f:=by
 rw[<-sf_up h.good (n-b) b ac hF];obtain⟨m,rfl⟩:∃m,n=m+1:=⟨n-1,ac⟩;have aA:=VB h.good m 0 ac (fun c _ hc=>h.comp c hc);constructor
 .intro h1;exact Vz h.good (Gn.grp hS) (m+1) 0 f ac h.snd.1 hP (fun i hi=>ac) h1
 .intro h1;refine(aA f hP (fun i hi=>ac)).2 (h1.mono fun s hs=>?_);obtain⟨j,hj,e⟩:=List.getElem_of_mem hs;exact(aA s (hS s hs) (fun i hi=>ac)).1 (h.mem j s ac ar)
theorem IZ.orb{n k:Nat}{S:List (Nat->Nat)}{t:Tw}(hn:1<=n)(hS:∀s∈S,Be n s)(h:IZ n S t k)(hk:S.length<=k){b:Nat}(hb:b<n)(x:Nat):(∃r,t.R b x=some r)↔∃f,Gn S f/\A5 b f/\f b=x:=by
 constructor
 .rintro⟨r,hr⟩;obtain⟨_,_,h1,h2,h3⟩:=h.good.rep _ _ _ hr;exact⟨r,h.snd.1 _ _ _ (Nat.zero_le _) hr,h2,h3⟩
 .rintro⟨f,hf,hF,rfl⟩;have:=(h.grp hn hS hk ac (hf.isP hS) hF).2 hf;rw[show n-b=n-(b+1)+1 by omega]at this;obtain⟨r,hr,_⟩:=this;exact⟨r,hr⟩
theorem K4(n:Nat)(f:Nat->Int):(il n f).length=n:=An n f
theorem Qi{N:Nat}{f g:Nat->Int}(h:∀j,j<N->f j=g j):il N f=il N g:=by
 apply List.ext_getElem?;intro j;by_cases hj:j<N
 .rw[AQ hj,AQ hj,h j hj]
 .rw[List.getElem?_eq_none (by rw[K4];omega),List.getElem?_eq_none (by rw[K4];omega)]
theorem zdp{P:Prop}(h:P:=by
 rw[List.getD_eq_getElem?_getD,AQ h];rfl):P:=h
theorem Zz{N j:Nat}(h:j<N)(f:Nat->Int):(il N f).getD j 0=f j:=by
 exact zdp
theorem V6{n:Nat}{f:Nat->Int}{x:Int}(h:x∈il n f):∃j,j<n/\f j=x:=by
 unfold il at h;obtain⟨j,hj,e⟩:=List.mem_map.1 h;exact⟨j,List.mem_range.1 hj,e⟩
def li(n:Nat)(f:Nat->Nat):List Int:=il n fun i=>(f i:Int)
theorem Ch(n:Nat)(f:Nat->Nat):(li n f).length=n:=K4 _ _
theorem Dl{n i:Nat}(h:i<n)(f:Nat->Nat):(li n f)[i]?=some (f i:Int):=AQ h _
theorem Ww{n:Nat}{f g:Nat->Nat}(h:∀i,i<n->f i=g i):li n f=li n g:=Qi fun i hi=>by rw[h i hi]
theorem li_at{n:Nat}{f g:Nat->Nat}(h:li n f=li n g){i:Nat}(hi:i<n):f i=g i:=by
 have:=Dl hi f;rw[h,Dl hi g]at this;injection this with this;omega
theorem Wv{n:Nat}{f g:Nat->Nat}(hf:Be n f)(hg:Be n g)(h:li n f=li n g):f=g:=G5 hf hg fun i hi=>li_at h hi
theorem DU{w:World}{v:Value}{n:Nat}{f:Nat->Nat}(h:Al w v (li n f)):∃a cap,v= .slice a n cap/\n<=cap/\cap<=maxLen/\
  (0<n->∃b o,a=some ⟨b,o,none⟩/\∀j,j<n->w.cell? ⟨b,o+j,none⟩=some (.int .i64 (f j:Int))):=by
 obtain⟨a,cap,h1,h2,h3,h4⟩:=h.open;rw[Ch]at h1 h2 h4;refine⟨a,cap,h1,h2,h3,fun hn=>?_⟩;obtain⟨b,o,h5,h6⟩:=h4 hn;exact⟨b,o,h5,fun j hj=>h6 j _ (Dl hj f)⟩
theorem AH.li{w:World}{base:Nat}{e:TypeId}{g n:Nat}{f:Nat->Nat}(h:AH w base e g n (iv fun i=>(f i:Int))):Al w (.slice (some (g,0)) n n) (Go.Proofs.YtehieobniamagaaGreat.li n f):=h.isl
theorem zbV{P:Prop}(h:P:=by
 go_wp2_with fail
 go_roundw
 case rel=>exact⟨k+1,by omega,by go_num,HO,HX⟩
 case measure=>simp[intOf];omega):P:=h
theorem zc6{P:Prop}(h:P:=by
 clear aA;go_wp2_with fail
 go_ret;exact⟨g,rfl,HO.o,hx.o⟩):P:=h
theorem Fl(w:World)(n:Nat)(f h:Nat->Nat)(u v:Value)(hu:Al w u (li n f))(hv:Al w v (li n h))(hn:n<=100)(hf:∀i,i<n->f i<n):
  Calls Tryz.prog 108 #[u,v] w fun r w'=>∃g,r= .returned (.slice (some ⟨g,0,none⟩) n n)/\AH w' w.heap.size 3 g n (iv fun i=>(Aq f h i:Int))/\Ex w w':=by
 obtain⟨ua,uc,rfl,_,u2,u3⟩:=DU hu;obtain⟨va,vc,rfl,_,v2,v3⟩:=DU hv;unfold maxLen at u2 v2;have U3:=Aa u3;have V3:=Aa v3;have HF:=Aa hf;clear hu hv u3 v3 hf;go_enter Tryz.func108,Tryz.ntmps108
 go_wp2_with (at_make;refine Au _ rfl _ _ 22 rfl 3 (.int .i64 0) 8 Tryz.underlying22 AC rfl _ n rfl rfl rfl ac ai ?_)
 intro w3 aA aC;obtain⟨g,aB⟩:=nA w.heap.size;have aH:=Aa (show AH w3 g 3 g n (iv fun i=>if i<0 then(Aq f h i:Int) else 0) from by rw[<-aB];exact aA.icongr fun i _=>rfl);have aF:=Aa aC;have aG:=Aa aB;rw[aB]at ⊢;clear aA aC aB;go_wp2_with fail
 go_loopw [13] (fun k' wr=>∃(k:Nat),k<=n/\k'= .int .i64 k/\Hia (AH wr g 3 g n (iv fun i=>if i<k then(Aq f h i:Int) else 0))/\Hia (Ex w wr)) (fun k' _=>n-(intOf k').toNat)
 case atStart=>exact⟨0,ac,rfl,aH,aF⟩
 case round=>
  clear aH aF;obtain⟨k,hk,rfl,aA,hx⟩:=hrel;by_cases hkn:k<n
  .obtain⟨ub,uo,rfl,aE⟩:=U3.o ac;obtain⟨vb,vo,rfl,aD⟩:=V3.o ac;have aI:=HF.o k hkn;have c1:=hx.o.cell (aE k hkn);have c2:=hx.o.cell (aD (f k) aI);have c3:=aA.o.cell hkn;have c4:=aA.o.frz k;have i1:(0:Int)<=(k:Int):=by omega
   have i2:(k:Int)<(n:Int):=ac;have i3:(0:Int)<=(f k:Int):=ac;have i4:(f k:Int)<(n:Int):=ac;have HO:=Aa (show AH (wr.setCell (g,k) (.int .i64 (h (f k):Int))) g 3 g n (iv fun i=>if i<k+1 then(Aq f h i:Int) else 0) from by
    refine(aA.o.set k _).congr fun i hi=>?_;by_cases e:i=k
    .subst e;rw[Ab];show _=Value.int .i64 (if i<i+1 then(Aq f h i:Int) else 0);rw[if_pos ac];rfl
    .rw[Ad _ _ e];show Value.int .i64 (if i<k then(Aq f h i:Int) else 0)=Value.int .i64 (if i<k+1 then(Aq f h i:Int) else 0)
     by_cases h:i<k
     .exact za7
     .rw[if_neg h,if_neg ac])
   have HX:=Aa (aA.o.exSet (a:=w) (by have:=aG.o;omega) hx.o k (.int .i64 (h (f k):Int)));clear aE aD aA hx;exact zbV
  .obtain rfl:k=n:=by omega
   have HO:=Aa (show AH wr w.heap.size 3 g k (iv fun i=>(Aq f h i:Int)) from by
    rw[aG.o];exact aA.o.icongr fun i hi=>if_pos hi)
   exact zc6
theorem GH(w:World)(n:Nat)(f:Nat->Nat)(u:Value)(hu:Al w u (li n f))(hn:n<=100)(hf:Be n f):
  Calls Tryz.prog 109 #[u] w fun r w'=>∃g,r= .returned (.slice (some ⟨g,0,none⟩) n n)/\AH w' w.heap.size 3 g n (iv fun i=>(A8 n f i:Int))/\Ex w w':=by
 obtain⟨ua,uc,rfl,_,u2,u3⟩:=DU hu;unfold maxLen at u2;have U3:=Aa u3;have HF:=Aa hf;clear hu u3 hf;go_enter Tryz.func109,Tryz.ntmps109
 go_wp2_with (at_make;refine Au _ rfl _ _ 22 rfl 3 (.int .i64 0) 8 Tryz.underlying22 AC rfl _ n rfl rfl rfl ac ai ?_)
 intro w3 aA aC;obtain⟨g,aB⟩:=nA w.heap.size;have aG:=Aa (show AH w3 g 3 g n (iv fun i=>if A8 n f i<0 then(A8 n f i:Int) else 0) from by rw[<-aB];exact aA.icongr fun i _=>rfl);have aE:=Aa aC;have aF:=Aa aB;rw[aB]at ⊢;clear aA aC aB;go_wp2_with fail
 go_loopw [11] (fun k' wr=>∃(k:Nat),k<=n/\k'= .int .i64 k/\Hia (AH wr g 3 g n (iv fun i=>if A8 n f i<k then(A8 n f i:Int) else 0))/\Hia (Ex w wr)) (fun k' _=>n-(intOf k').toNat)
 case atStart=>exact⟨0,ac,rfl,aG,aE⟩
 case round=>
  clear aG aE;obtain⟨k,hk,rfl,aA,hx⟩:=hrel;by_cases hkn:k<n
  .obtain⟨ub,uo,rfl,aD⟩:=U3.o ac;have aH:=HF.o.lt k hkn;have c1:=hx.o.cell (aD k hkn);have c3:=aA.o.cell aH;have c4:=aA.o.frz (f k);have i1:(0:Int)<=(k:Int):=by omega
   have i2:(k:Int)<(n:Int):=ac;have i3:(0:Int)<=(f k:Int):=ac;have i4:(f k:Int)<(n:Int):=ac;have HO:=Aa (show AH (wr.setCell (g,f k) (.int .i64 (k:Int))) g 3 g n (iv fun i=>if A8 n f i<k+1 then(A8 n f i:Int) else 0) from by
    refine(aA.o.set (f k) _).congr fun i hi=>?_;by_cases e:i=f k
    .subst e;rw[Ab];show _=Value.int .i64 (if A8 n f (f k)<k+1 then(A8 n f (f k):Int) else 0);rw[HF.o.inv_l,if_pos ac]
    .rw[Ad _ _ e];show Value.int .i64 (if A8 n f i<k then(A8 n f i:Int) else 0)=Value.int .i64 (if A8 n f i<k+1 then(A8 n f i:Int) else 0)
     have h1:A8 n f i≠k:=fun h=>e (by rw[<-h,HF.o.inv_r]);by_cases h:A8 n f i<k
     .exact za7
     .rw[if_neg h,if_neg ac])
   have HX:=Aa (aA.o.exSet (a:=w) (by have:=aF.o;omega) hx.o (f k) (.int .i64 (k:Int)));clear aD aA hx;exact zbV
  .obtain rfl:k=n:=by omega
   have HO:=Aa (show AH wr w.heap.size 3 g k (iv fun i=>(A8 k f i:Int)) from by
    rw[aF.o];exact aA.o.icongr fun i hi=>if_pos (HF.o.inv.lt i hi))
   exact zc6
theorem ID(w:World)(n:Nat)(hn:n<=100):
  Calls Tryz.prog 102 #[n] w fun r w'=>∃g,r= .returned (.slice (some ⟨g,0,none⟩) n n)/\AH w' w.heap.size 3 g n (iv fun i=>(Ek i:Int))/\Ex w w':=by
 go_enter Tryz.func102,Tryz.ntmps102
 go_wp2_with (at_make;refine Au _ rfl _ _ 22 rfl 3 (.int .i64 0) 8 Tryz.underlying22 AC rfl _ n rfl rfl rfl ac ai ?_)
 intro w3 aA aC;obtain⟨g,aB⟩:=nA w.heap.size;have aF:=Aa (show AH w3 g 3 g n (iv fun i=>if i<0 then(i:Int) else 0) from by rw[<-aB];exact aA.icongr fun i _=>rfl);have aD:=Aa aC;have aE:=Aa aB;rw[aB]at ⊢;clear aA aC aB;go_wp2_with fail
 go_loopw [9] (fun k' wr=>∃(k:Nat),k<=n/\k'= .int .i64 k/\Hia (AH wr g 3 g n (iv fun i=>if i<k then(i:Int) else 0))/\Hia (Ex w wr)) (fun k' _=>n-(intOf k').toNat)
 case atStart=>exact⟨0,ac,rfl,aF,aD⟩
 case round=>
  clear aF aD;obtain⟨k,hk,rfl,aA,hx⟩:=hrel;by_cases hkn:k<n
  .have c3:=aA.o.cell hkn;have c4:=aA.o.frz k;have i1:(0:Int)<=(k:Int):=by omega
   have i2:(k:Int)<(n:Int):=ac;have HO:=Aa (show AH (wr.setCell (g,k) (.int .i64 (k:Int))) g 3 g n (iv fun i=>if i<k+1 then(i:Int) else 0) from by
    refine(aA.o.set k _).congr fun i hi=>?_;by_cases e:i=k
    .subst e;rw[Ab];show _=Value.int .i64 (if i<i+1 then(i:Int) else 0);rw[if_pos ac]
    .rw[Ad _ _ e];show Value.int .i64 (if i<k then(i:Int) else 0)=Value.int .i64 (if i<k+1 then(i:Int) else 0)
     by_cases h:i<k
     .exact za7
     .rw[if_neg h,if_neg ac])
   have HX:=Aa (aA.o.exSet (a:=w) (by have:=aE.o;omega) hx.o k (.int .i64 (k:Int)));clear aA hx;exact zbV
  .obtain rfl:k=n:=by omega
   have HO:=Aa (show AH wr w.heap.size 3 g k (iv fun i=>(Ek i:Int)) from by
    rw[aE.o];exact aA.o.icongr fun i hi=>if_pos hi)
   exact zc6
section
variable {p m:Nat} {ml:List Int} {mv:Value}
end
theorem ZZ{p m:Int}{ml:List Int}(h:¬Ga p m ml):Ce p m ml=1:=by
 have h1:Ce p m ml≠0:=fun e=>h ((Cm p m ml).1 e);unfold Ce at h1 ⊢;split
 .rename_i h2;rw[if_pos h2]at h1;exact absurd rfl h1
 .rfl
theorem Sx(w:World)(p m:Int)(ml:List Int)(mv:Value)(aD:Al w mv ml):
  Calls Tryz.prog 147 #[.agg #[p,m,mv]] w fun r w'=>r= .returned (.int .i64 (Ce p m ml))/\Ex w w':=by
 obtain⟨a0,a1,a2,ea,-⟩:=AA w p m mv;have HE:=Aa ea;have aE:=Aa (aD.ex ea);have aC:=Aa (fun w' (h:Al w' mv ml)=>MU p m ml mv w' h);have aA:=Jg p m;obtain⟨R,hR⟩:=nA (Ce p m ml);rw[hR];by_cases hs:KE p m ml=true
 .obtain⟨pn,mn,rfl,rfl,hf,aH,ho⟩:=NM hs;rw[ho]at aA;rw[hs]at aC;have aJ:=Aa aA;have aK:=Aa (fun w' (h:Al w' mv ml)=>Hl pn mn ml mv w' hf h);obtain⟨B,hB⟩:∃B:Bool,(B=true↔R=1)/\(B=false↔R=0)/\∀w' v,O6 pn mn ml w' v->∃ga gn gc,v= .slice ga gn gc/\ga.isNone=B:=by
   by_cases hF:Hf pn mn (lw ml)
   .have h0:=(Cm _ _ _).2 ⟨pn,mn,rfl,rfl,hf,aH,hF⟩;rw[hR]at h0;subst h0;refine⟨false,ag,ag,fun w' v h=>?_⟩;rcases h with⟨x,x1,x2,hgx,hgv⟩|⟨hno,rfl⟩
    .obtain⟨ga,gc,rfl,g1,g2,g3⟩:=hgv.open;obtain⟨gb,gof,rfl,g4⟩:=g3 (by rw[An];have:=Bz hf.p2 hf.m1;omega);exact⟨_,_,_,rfl,rfl⟩
    .exact absurd hF hno
   .have h0:Ce pn mn ml=1:=ZZ fun ⟨a,b,e1,e2,_,_,h⟩=>by
     have aO:pn=a:=ac;have aN:mn=b:=ac;subst aO;subst aN;exact hF h
    rw[hR]at h0;subst h0;refine⟨true,ag,ag,fun w' v h=>?_⟩;rcases h with⟨x,x1,x2,hgx,hgv⟩|⟨hno,rfl⟩
    .exact absurd ⟨x,x1,x2,hgx⟩ hF
    .exact⟨_,_,_,rfl,rfl⟩
  have HB:=Aa hB;have hE:=fun w (a:Option Addr) (l c:Nat)=>AP (P:=Tryz.prog) w 22 3 a l c Tryz.underlying22;clear aA hf aH ho hs hB hR aD ea;obtain⟨q,aG⟩:=nA (pn^mn);rw[aG]at aJ aK;clear aG;go_enter Tryz.func147,Tryz.ntmps147
  go_wp2_with fail
  obtain⟨xb,aB⟩:=nA w.heap.size;rw[aB]at a0 a1 a2
  try simp only[aB]
  clear aB;generalize w.alloc (.cells #[pn,mn,mv] 24)=w1 at *;have G0:Ex w1 w1.drew:=(Ex.refl w1).drew;have A0:=Aa a0;have A1:=Aa a1;have A2:=Aa a2
  first|go_region_with ((first
        | (go_at_call 111;(with_reducible refine(aC.o _ (aE.o.ex G0)).mono ?_);rintro e w2⟨rfl,h2⟩;have X2:=G0.trans h2;have b0:=X2.cell A0.o;have b1:=X2.cell A1.o;have b2:=X2.cell A2.o;clear h2)
        | (go_at_call 112;(with_reducible refine(aJ.o _).mono ?_);rintro e w3⟨rfl,rfl⟩)
        | (go_at_call 113;(with_reducible refine(aK.o _ (aE.o.ex X2)).mono ?_);rintro e w3⟨gv,rfl,aI,aF⟩;have X3:=X2.trans aF;obtain⟨ga,gn,gc,rfl,aL⟩:=HB.o.2.2 _ _ aI;have aM:=fun w=>hE w ga gn gc;rw[aL]at aM;clear aI aF)))|fail
  all_goals
   cases B with
   | true=>
    obtain rfl:=HB.o.1.1 rfl;go_wp2_with fail
    go_ret;exact⟨rfl,HE.o.trans X3⟩
   | false=>
    obtain rfl:=HB.o.2.1.1 rfl;go_wp2_with fail
    go_ret;exact⟨rfl,HE.o.trans X3⟩
 .have hs:KE p m ml=false:=by simpa using hs
  rw[hs]at aC;have hr:=TQ (p:=p) (m:=m) hs;rw[hR]at hr;subst hr;clear hs aA hR aD ea;go_enter Tryz.func147,Tryz.ntmps147
  go_wp2_with fail
  obtain⟨xb,aB⟩:=nA w.heap.size;rw[aB]at a0 a1 a2
  try simp only[aB]
  clear aB;generalize w.alloc (.cells #[p,m,mv] 24)=w1 at *;have G0:Ex w1 w1.drew:=(Ex.refl w1).drew
  first|go_region_with ((go_at_call 111;(with_reducible refine(aC.o _ (aE.o.ex G0)).mono ?_);rintro e w2⟨rfl,h2⟩;have X2:=G0.trans h2;clear h2))|fail
  all_goals
   go_wp2_with fail
   go_ret;exact⟨rfl,HE.o.trans X2⟩
theorem Us(p m:Int)(ml:List Int)(mv:Value)(w:World)(aP:Al w mv ml)(cols:Int)(rows:List (List Int))(v:Value)(hv:BZ w v rows):
  Calls Tryz.prog 145 #[.agg #[p,m,mv],.agg #[cols,v]] w fun r w'=>∃e,r= .returned (.int .i64 e)/\Me p m ml cols rows e/\Ex w w':=by
 obtain⟨g0,g1,g2,e0,aH⟩:=AA w p m mv;have aV:=Aa aP;have HV:=Aa hv;obtain⟨za,zc,rfl,z1,z2,z3⟩:=hv.open;have Z3:=Aa z3;unfold maxLen at z2;obtain⟨xb,aJ⟩:=nA w.heap.size;rw[aJ]at g0 g1 g2 aH;have aT:=Aa (fun w' h=>Hu p m ml mv w' h);have aI:=Aa (Cm p m ml);have aE:=Aa (show Ce p m ml=0∨Ce p m ml=1 by unfold Ce;split <;> simp);clear aP hv z3;go_enter Tryz.func145,Tryz.ntmps145
 go_wp2_with fail
 try simp only[aJ]
 generalize w.alloc (.cells #[p,m,mv] 24)=wA at *;have a0:(wA.alloc (.cells #[cols,.slice za rows.length zc] 137)).cell? (xb+1,0)=some (.int .i64 cols):=by rw[<-aH];simp
 have a1:(wA.alloc (.cells #[cols,.slice za rows.length zc] 137)).cell? (xb+1,1)=some (.slice za rows.length zc):=by rw[<-aH];simp
 have eA:Ex wA (wA.alloc (.cells #[cols,.slice za rows.length zc] 137)):=(Ex.refl _).alloc _;generalize wA.alloc (.cells #[cols,.slice za rows.length zc] 137)=wB at *;have b0:=eA.cell g0;have b1:=eA.cell g1;have b2:=eA.cell g2;have eB:=e0.trans eA;clear g0 g1 g2 e0 eA aH aJ wA;refine(aT.o wB (aV.o.ex eB)).mono ?_;rintro r w4⟨rfl,aD⟩;have c0:=aD.cell b0;have c1:=aD.cell b1;have c2:=aD.cell b2;have c3:=aD.cell a0;have c4:=aD.cell a1;have aC:=Aa (eB.trans aD);clear b0 b1 b2 a0 a1 aD eB;by_cases h0:Ce p m ml=0
 .obtain⟨pn,mn,rfl,rfl,aK,aO,aQ⟩:=aI.o.1 h0;have aW:=Aa (show Ga pn mn ml from⟨pn,mn,rfl,rfl,aK,aO,aQ⟩);have aY:=Aa (fun w' l v (h:Al w' v l)=>Ip (mv:=mv) w' aK l v h);have aB:=Aa (show ∀e,e=B6 (pn^mn) cols rows->Me pn mn ml cols rows e from fun e h=> .inl ⟨pn,mn,rfl,rfl,aW.o,h⟩);have HE:=Aa (show B6 (pn^mn) cols rows=if cols<0∨256<cols∨256<(rows.length:Int) then 3
 else if (rows.all fun r=>decide ((r.length:Int)=cols))=true then(if (rows.all fun r=>Cc (pn^mn) r==0)=true then 0 else 2) else 3 from rfl)
  rw[h0];clear h0 aK aO aQ aI aE;by_cases h:cols<0∨256<cols∨256<(rows.length:Int)
  .have HR:=Aa (aB.o 3 (by rw[HE.o,if_pos h]));have hc:cols<0∨(0<=cols/\256<cols)∨(0<=cols/\cols<=256/\256<(rows.length:Int)):=by omega
   clear h HE;rcases hc with hc|⟨h1,h2⟩|⟨h1,h2,h3⟩
   all_goals
    go_wp2_with fail
    go_ret;exact⟨_,rfl,HR.o,aC.o⟩
  .have h1:0<=cols:=by omega
   have h2:cols<=256:=ac;have h3:(rows.length:Int)<=256:=ac;have d1:decide (cols<0)=false:=aq;have d2:decide (256<cols)=false:=aq;have d3:decide (256<(rows.length:Int))=false:=aq;have aS:=Aa (show B6 (pn^mn) cols rows=if (rows.all fun r=>decide ((r.length:Int)=cols))=true then(if (rows.all fun r=>Cc (pn^mn) r==0)=true then 0 else 2) else 3 by rw[HE.o,if_neg h]);have aU:Ex w4 w4:=Ex.refl _;clear h HE;go_wp2_with fail
   go_loopw [6] (fun i' wr=>∃i:Nat,i<=rows.length/\i'= .int .i64 i/\Hia (∀(j:Nat) (r:List Int),j<i->rows[j]?=some r->(r.length:Int)=cols)/\Ex w4 wr) (fun i' _=>rows.length-(intOf i').toNat)
   case atStart=>exact⟨0,ac,rfl,Aa (fun j x h=>ac),aU⟩
   case round=>
    clear aU;obtain⟨i,hi,rfl,aA,hx⟩:=hrel;have r0:=hx.cell c3;have r1:=hx.cell c4;by_cases hlt:i<rows.length
    .obtain⟨r,hr⟩:∃r,rows[i]?=some r:=⟨_,List.getElem?_eq_getElem hlt⟩;obtain⟨bb,o,rfl,hc⟩:=Z3.o ac;obtain⟨u,e1,hu⟩:=hc i r hr;obtain⟨ua,uc,rfl,u1,u2,u3⟩:=hu.open;have e2:=(aC.o.trans hx).cell e1;have i1:(0:Int)<=(i:Int):=by omega
     have i2:(i:Int)<(rows.length:Int):=ac;unfold maxLen at u2;by_cases hl:(r.length:Int)=cols
     .have hb:((r.length:Int) !=cols)=false:=by simpa using hl
      have HA:=Aa (show ∀(j:Nat) (s:List Int),j<i+1->rows[j]?=some s->(s.length:Int)=cols from fun j s hj hs=>by
       by_cases e:j=i
       .exact zaU
       .exact aA.o j s ac hs)
      clear hl hc e1 hu u3 hr;go_wp2_with fail
      go_quiet (fail)
      go_wp2_with fail
      go_roundw
      case rel=>exact⟨i+1,ac,by go_num,HA,hx.drewN _⟩
      case measure=>simp[intOf];omega
     .have hb:((r.length:Int) !=cols)=true:=by simpa using hl
      have HF:=Aa (aB.o 3 (by
       rw[aS.o,if_neg];intro h;have:=List.all_eq_true.1 h r (List.mem_of_getElem? hr);exact hl dr))
      clear hl hc e1 hu u3 hr;go_wp2_with fail
      go_quiet (fail)
      go_wp2_with fail
      go_ret;exact⟨_,rfl,HF.o,(aC.o.trans hx).drewN _⟩
    .obtain rfl:i=rows.length:=by omega
     have aR:=Aa (show B6 (pn^mn) cols rows=if (rows.all fun r=>Cc (pn^mn) r==0)=true then 0 else 2 by
      rw[aS.o,if_pos];rw[List.all_eq_true];intro r hr;obtain⟨j,hj,e⟩:=List.getElem_of_mem hr;exact decide_eq_true (aA.o j r hj ar))
     clear aA;go_wp2_with fail
     obtain⟨wo,rfl⟩:∃wo:World,wo=wr:=⟨_,rfl⟩;clear r0 r1
     go_loopw [5,7] (fun e' i' wr=>∃i:Nat,i<=rows.length/\i'= .int .i64 i/\e'= .int .i64 0/\Hia (∀(j:Nat) (r:List Int),j<i->rows[j]?=some r->Cc (pn^mn) r=0)/\Ex w4 wr) (fun _ i' _=>rows.length-(intOf i').toNat)
     case atStart=>exact⟨0,ac,rfl,rfl,Aa (fun j x h=>ac),hx⟩
     case round=>
      clear hx;obtain⟨i,hi,rfl,rfl,aA,hx⟩:=hrel;have r0:=hx.cell c3;have r1:=hx.cell c4;have s0:=hx.cell c0;have s1:=hx.cell c1;have s2:=hx.cell c2;by_cases hlt:i<rows.length
      .obtain⟨r,hr⟩:∃r,rows[i]?=some r:=⟨_,List.getElem?_eq_getElem hlt⟩;obtain⟨bb,o,rfl,hc⟩:=Z3.o ac;obtain⟨u,e1,hu⟩:=hc i r hr;have aN:=hu.ex (aC.o.trans hx);obtain⟨ua,uc,rfl,u1,u2,u3⟩:=hu.open;have e2:=(aC.o.trans hx).cell e1;have i1:(0:Int)<=(i:Int):=by omega
       have i2:(i:Int)<(rows.length:Int):=ac;have aG:=Aa (aY.o wr.drew r _ aN);have aM:=hx.drew;unfold maxLen at u2;obtain⟨ev,aF⟩:=nA (Cc (pn^mn) r);have aL:ev=0∨ev=2:=by rw[<-aF];exact TF
       rw[aF]at aG;have HA:=Aa (show ev=0->∀(j:Nat) (s:List Int),j<i+1->rows[j]?=some s->Cc (pn^mn) s=0 from fun h0 j s hj hs=>by
        by_cases e:j=i
        .subst e;rw[hr]at hs;injection hs with hs;subst hs;rw[aF,h0]
        .exact aA.o j s ac hs)
       have HF:=Aa (show ev≠0->Me pn mn ml cols rows 2 from fun h0=>aB.o 2 (by
        rw[aR.o,if_neg];intro h;have:=List.all_eq_true.1 h r (List.mem_of_getElem? hr);rw[aF]at this;exact h0 dr))
       clear hc e1 hu aN u3 hr aF;go_wp2_with fail
       go_region_held3 (fun w'=>w'.cell? (xb,0)=some (.int .i64 pn)/\w'.cell? (xb,1)=some (.int .i64 mn)/\w'.cell? (xb,2)=some mv/\w'.cell? (xb+1,1)=some (.slice (some (bb,o)) rows.length zc)/\w'.cell? (bb,o+i)=some (.slice ua r.length uc))
        (first|exact⟨s0,s1,s2,r1,e2⟩|exact⟨hx5.cell s0,hx5.cell s1,hx5.cell s2,hx5.cell r1,hx5.cell e2⟩)
        ((go_at_call 153;refine aG.o.mono ?_;rintro e w5⟨rfl,hx5⟩))
       rcases aL with h0|h0
       .subst h0;have aZ:=Aa (HA.o rfl);go_wp2_with fail
        go_roundw
        case rel=>exact⟨i+1,ac,by go_num,rfl,aZ,aM.trans hx5⟩
        case measure=>simp[intOf];omega
       .subst h0;have aX:=Aa (HF.o ac);go_wp2_with fail
        go_ret;exact⟨_,rfl,aX.o,aC.o.trans (aM.trans hx5)⟩
      .obtain rfl:i=rows.length:=by omega
       have HF:=Aa (aB.o 0 (by
        rw[aR.o,if_pos];rw[List.all_eq_true];intro r hr;obtain⟨j,hj,e⟩:=List.getElem_of_mem hr;rw[aA.o j r hj ar];rfl))
       go_wp2_with fail
       go_ret;exact⟨_,rfl,HF.o,aC.o.trans hx⟩
 .have h1:Ce p m ml=1:=by rcases aE.o with h|h;exact absurd h h0;exact h
  have HN:=Aa (show Me p m ml cols rows 1 from .inr ⟨fun h=>h0 (aI.o.2 h),rfl⟩);rw[h1];clear h0 h1 aI aE aT;go_wp2_with fail
  go_ret;exact⟨_,rfl,HN.o,aC.o⟩
def Vw(rows:List (List Int)):Nat:=rows.length+(rows.map List.length).sum
def Qr(aA:Int)(rows:List (List Int))(aB:Int):Bool:=decide (aA<=260/\(Vw rows:Int)<=aB)
theorem JL:∀(l:List Nat) (i:Nat),(l.take i).sum<=l.sum
 | [],i=>by simp
 | x :: l,0=>by simp
 | x :: l,i+1=>by have:=JL l i;simp;omega
theorem zdj{P:Prop}(h:P:=by
 go_wp2_with fail
 go_ret;exact⟨rfl,HE.o⟩):P:=h
theorem zcf{P:Prop}(h:P:=by
 clear HF;go_enter Tryz.func120,Tryz.ntmps120
 exact zdj):P:=h
theorem dv{P:Prop}(h:P:=by first|rfl|trivial):P:=h
theorem Uo(w:World)(aA:Int)(rows:List (List Int))(v:Value)(hv:BZ w v rows)(lim:Int)(hl0:0<=lim)(hl1:lim<=100000):
  Calls Tryz.prog 120 #[.agg #[aA,v],lim] w fun r w'=>r= .returned (.bool (Qr aA rows lim))/\Ex w w':=by
 obtain⟨d0,d1,e0⟩:=CM w aA v;obtain⟨za,zc,rfl,z1,z2,z3⟩:=(hv.ex e0).open;have Z3:=Aa z3;unfold maxLen at z2;have HE:=Aa e0;clear hv z3 e0;obtain⟨F,hF⟩:=nA (Qr aA rows lim);have HF:=Aa (show F=decide (aA<=260/\(Vw rows:Int)<=lim) from hF.symm);rw[hF];clear hF;by_cases h1:260<aA
 .have hF:F=false:=by rw[HF.o];exact decide_eq_false ac
  subst hF;exact zcf
 .have aB:aA<=260:=by omega
  clear h1;by_cases h2:lim<(rows.length:Int)
  .have hF:F=false:=by rw[HF.o];exact decide_eq_false (by unfold Vw;omega)
   subst hF;exact zcf
  .have h2':(rows.length:Int)<=lim:=by omega
   have b1:decide (260<aA)=false:=aq;have b2:decide (lim<(rows.length:Int))=false:=aq;clear h2;go_enter Tryz.func120,Tryz.ntmps120
   go_wp2_with fail
   generalize w.alloc (.cells #[aA,.slice za rows.length zc] 137)=w1 at *
   go_loopw [5,6] (fun l' i' wr=>∃(i:Nat) (l:Int),i<=rows.length/\i'= .int .i64 i/\l'= .int .i64 l/\0<=l/\l<=100000/\Hia (l=lim-rows.length-(((rows.map List.length).take i).sum:Nat))/\wr=w1) (fun _ i' _=>rows.length-(intOf i').toNat)
   case atStart=>exact⟨0,lim-rows.length,ac,rfl,by go_num,ac,ac,Aa ag,rfl⟩
   case round=>
    obtain⟨i,l,hi,rfl,rfl,l1,l2,hl,rfl⟩:=hrel;by_cases hlt:i<rows.length
    .obtain⟨r,hr⟩:∃r,rows[i]?=some r:=⟨_,List.getElem?_eq_getElem hlt⟩;have HS:=Aa (show((rows.map List.length).take (i+1)).sum=((rows.map List.length).take i).sum+r.length from by
      rw[List.take_add_one,List.getElem?_map,hr];simp)
     have HT:=Aa (JL (rows.map List.length) (i+1));obtain⟨bb,o,rfl,hc⟩:=Z3.o ac;obtain⟨u,c1,hu⟩:=hc i r hr;obtain⟨ua,uc,rfl,u1,u2,u3⟩:=hu.open;unfold maxLen at u2;clear hc hu u3 hr;by_cases h3:l<(r.length:Int)
     .have hF:F=false:=by
       rw[HF.o];have s1:=hl.o;have s2:=HS.o;have s3:=HT.o;exact decide_eq_false (by unfold Vw;omega)
      subst hF;clear HF HS HT hl;exact zdj
     .have h3':(r.length:Int)<=l:=by omega
      have HL:=Aa (show l-r.length=lim-rows.length-(((rows.map List.length).take (i+1)).sum:Nat) from by
       have s1:=hl.o;have s2:=HS.o;omega)
      clear h3 HS HT hl;go_wp2_with fail
      go_roundw
      case rel=>exact⟨i+1,_,ac,by go_num,dv,ac,ac,HL,dv⟩
      case measure=>simp[intOf];omega
    .obtain rfl:i=rows.length:=by omega
     have hF:F=true:=by
      rw[HF.o];have s1:=hl.o;rw[List.take_of_length_le ag]at s1;exact decide_eq_true ⟨aB,by unfold Vw;omega⟩
     subst hF;clear hl HF;exact zdj
theorem Rw(w:World)(p m:Int)(mv:Value)(n:Int)(rows:List (List Int))(v:Value)(hv:BZ w v rows)(aA:Int)(aD:0<=aA)(aC:aA<=100000):
  Calls Tryz.prog 61 #[.agg #[p,m,mv,n,v],aA] w fun r w'=>r= .returned (.bool (Qr 0 rows aA))/\Ex w w':=by
 obtain⟨a0,a1,a2,a3,a4,ea⟩:=EN w p m mv n v;have aB:=Aa (fun (w':World) (h:Ex w w')=>Uo w' 0 rows v (hv.ex h) aA aD aC);obtain⟨za,zc,rfl,-,z2,-⟩:=hv.open;have HE:=Aa ea;clear hv ea z2;obtain⟨F,hF⟩:=nA (Qr 0 rows aA);rw[hF]at aB ⊢;clear hF;go_enter Tryz.func61,Tryz.ntmps61
 go_wp2_with fail
 generalize w.alloc (.cells #[p,m,mv,n,.slice za rows.length zc] 39)=w1 at *;refine(aB.o w1 HE.o).mono ?_;rintro e w2⟨rfl,hx⟩;have HX:=Aa (HE.o.trans hx);clear hx;exact zdi
def Eg(S:List (Nat->Nat))(x y:Nat):Prop:=∃f,Gn S f/\f x=y
theorem Eg.refl(S:List (Nat->Nat))(x:Nat):Eg S x x:=⟨Ek,.one,rfl⟩
theorem Eg.trans{S:List (Nat->Nat)}{x y z:Nat}(h:Eg S x y)(k:Eg S y z):Eg S x z:=by
 obtain⟨f,hf,rfl⟩:=h;obtain⟨g,hg,rfl⟩:=k;exact⟨_,hf.mul hg,rfl⟩
theorem Eg.symm{n:Nat}{S:List (Nat->Nat)}(hS:∀s∈S,Be n s){x y:Nat}(h:Eg S x y):Eg S y x:=by
 obtain⟨f,hf,rfl⟩:=h;exact⟨_,hf.inv hS,(hf.isP hS).inv_l x⟩
theorem Eg.of{S:List (Nat->Nat)}{s:Nat->Nat}(h:s∈S)(x:Nat):Eg S x (s x):=⟨s,Gn.of h,rfl⟩
theorem Eg.lt{n:Nat}{S:List (Nat->Nat)}(hS:∀s∈S,Be n s){x y:Nat}(hx:x<n)(h:Eg S x y):y<n:=by
 obtain⟨f,hf,rfl⟩:=h;exact(hf.isP hS).lt x hx
theorem Eg.closed{S:List (Nat->Nat)}{C:Nat->Prop}(hC:∀s∈S,∀x,C x->C (s x)){x y:Nat}(hx:C x)(h:Eg S x y):C y:=by
 obtain⟨f,hf,rfl⟩:=h
 induction hf with
 | one=>exact hx
 | step _ hs ih=>exact hC _ hs _ ih
def O0(S:List (Nat->Nat))(i:Nat):Prop:=∀y,Eg S i y->i<=y
open Classical in
noncomputable def V9 (n:Nat) (S:List (Nat->Nat)) (i:Nat):List Nat:=(List.range n).filter fun y=>decide (Eg S i y)
noncomputable def RJ(n:Nat)(S:List (Nat->Nat))(i:Nat):List Int:=(V9 n S i).map fun (y:Nat)=>(y:Int)
open Classical in
noncomputable def Dv (n:Nat) (S:List (Nat->Nat)) (m:Nat):List (List Int):=((List.range m).filter fun i=>decide (O0 S i)).map (RJ n S)
open Classical in
theorem Wp {n:Nat} {S:List (Nat->Nat)} {i y:Nat}:y∈V9 n S i↔y<n/\Eg S i y:=by
 unfold V9;rw[List.mem_filter,List.mem_range,decide_eq_true_eq]
theorem V8(n:Nat)(S:List (Nat->Nat))(i:Nat):(V9 n S i).Pairwise (·< ·):=List.Pairwise.filter _ List.pairwise_lt_range
theorem QR:∀ {l k:List Nat},l.Pairwise (·< ·)->k.Pairwise (·< ·)->(∀x,x∈l↔x∈k)->l=k
 | [], [],_,_,_=>rfl
 | [],b :: k,_,_,h=>absurd ((h b).2 (List.mem_cons_self ..)) (List.not_mem_nil)
 | a :: l, [],_,_,h=>absurd ((h a).1 (List.mem_cons_self ..)) (List.not_mem_nil)
 | a :: l,b :: k,hl,hk,h=>by
  obtain⟨aA,aC⟩:=List.pairwise_cons.1 hl;obtain⟨aB,aD⟩:=List.pairwise_cons.1 hk;have aE:a=b:=by
   rcases List.mem_cons.1 ((h a).1 (List.mem_cons_self ..)) with h1|h1
   .exact h1
   .rcases List.mem_cons.1 ((h b).2 (List.mem_cons_self ..)) with h2|h2
    .exact h2.symm
    .have:=aB a h1;have:=aA b h2;omega
  subst aE
  congr 1
  refine QR aC aD fun x=>?_;constructor
  .intro hx;rcases List.mem_cons.1 ((h x).1 (List.mem_cons_of_mem _ hx)) with h1|h1
   .have:=aA x hx;omega
   .exact h1
  .intro hx;rcases List.mem_cons.1 ((h x).2 (List.mem_cons_of_mem _ hx)) with h1|h1
   .have:=aB x hx;omega
   .exact h1
theorem K5(n:Nat)(S:List (Nat->Nat))(m:Nat):(O0 S m->Dv n S (m+1)=Dv n S m ++ [RJ n S m])/\(¬O0 S m->Dv n S (m+1)=Dv n S m):=by
 unfold Dv;rw[List.range_succ,List.filter_append,List.map_append];constructor
 .intro h;simp[List.filter,h]
 .intro h;simp[List.filter,h]
theorem Uv(n:Nat)(S:List (Nat->Nat))(m:Nat):(Dv n S m).length<=m:=by
 unfold Dv;rw[List.length_map];exact Nat.le_trans (List.length_filter_le _ _) ag
def Ge(S:List (Nat->Nat))(i x:Nat):Prop:=∃y,Eg S x y/\y<i
theorem Hq{S:List (Nat->Nat)}{i:Nat}:Ge S i i↔¬O0 S i:=by
 constructor
 .rintro⟨y,h1,h2⟩ h3;have:=h3 y h1;omega
 .intro h;apply Classical.byContradiction;intro h2;refine h fun y hy=>?_;apply Classical.byContradiction;intro h3;exact h2 ⟨y,hy,ac⟩
theorem KL{n:Nat}{S:List (Nat->Nat)}(hS:∀s∈S,Be n s){i x:Nat}:Ge S (i+1) x↔Ge S i x∨Eg S i x:=by
 constructor
 .rintro⟨y,h1,h2⟩;by_cases h:y<i
  .exact .inl ⟨y,h1,h⟩
  .have:y=i:=by omega
   subst this;exact .inr (h1.symm hS)
 .rintro (⟨y,h1,h2⟩|h)
  .exact⟨y,h1,ac⟩
  .exact⟨i,h.symm hS,ac⟩
theorem VC{n:Nat}{S:List (Nat->Nat)}(hS:∀s∈S,Be n s){i x:Nat}(h:¬O0 S i):Ge S (i+1) x↔Ge S i x:=by
 rw[KL hS];constructor
 .rintro (h1|h1)
  .exact h1
  .obtain⟨y,h2,h3⟩:=Hq.2 h;exact⟨y,(h1.symm hS).trans h2,h3⟩
 .exact .inl
structure EV(n:Nat)(S:List (Nat->Nat))(i:Nat)(q:List Nat)(k g:Nat):Prop where
 pos:q[0]?=some i
 nd:q.Nodup
 rch:∀x∈q,Eg S i x
 old:∀j x s,j<k->q[j]?=some x->s∈S->s x∈q
 cur:∀j x s,j<g->q[k]?=some x->S[j]?=some s->s x∈q
theorem EV.lt{n:Nat}{S:List (Nat->Nat)}(hS:∀s∈S,Be n s){i:Nat}{q:List Nat}{k g:Nat}(hi:i<n)(h:EV n S i q k g):∀x∈q,x<n:=fun x hx=>(h.rch x hx).lt hS hi
theorem UC{q:List Nat}(aA:q.Nodup){i j:Nat}(hi:i<q.length)(hj:j<q.length)(e:q[i]=q[j]):i=j:=by
 have h:=List.pairwise_iff_getElem.1 (List.nodup_iff_pairwise_ne.1 aA);rcases Nat.lt_trichotomy i j with h1|h1|h1
 .exact absurd e (h i j hi hj h1)
 .exact h1
 .exact absurd e.symm (h j i hj hi h1)
theorem UB:∀(n:Nat) (q:List Nat),q.Nodup->(∀x∈q,x<n)->q.length<=n:=by
 intro n q aB aC;apply Classical.byContradiction;intro hn;have aA:∀i,i<n+1->q.getD i 0<n:=fun i hi=>by
  rw[List.getD_eq_getElem?_getD,List.getElem?_eq_getElem ac];exact aC _ (List.getElem_mem _)
 obtain⟨x,hx,e⟩:=Ea (n+1) (fun i=>q.getD i 0) (fun i hi=>by have:=aA i hi;omega) (fun i j hi hj e=>by
  simp only[List.getD_eq_getElem?_getD]at e;rw[List.getElem?_eq_getElem ac,List.getElem?_eq_getElem ac]at e;injection (show some q[i]=some q[j] from congrArg some e) with e;exact UC aB ac ac e) n ac
 have:=aA x hx;omega
theorem EV.len{n:Nat}{S:List (Nat->Nat)}(hS:∀s∈S,Be n s){i:Nat}{q:List Nat}{k g:Nat}(hi:i<n)(h:EV n S i q k g):1<=q.length/\q.length<=n:=
 ⟨by have:=(List.getElem?_eq_some_iff.1 h.pos).1;omega,UB n q h.nd (h.lt hS hi)⟩
theorem EV.start(n:Nat)(S:List (Nat->Nat))(i:Nat):EV n S i [i] 0 0:=
 ⟨rfl,ag,fun x hx=>by rw[List.mem_singleton.1 hx];exact .refl _ _,fun j x s h=>ac,fun j x s h=>ac⟩
theorem EV.hit{n:Nat}{S:List (Nat->Nat)}{i:Nat}{q:List Nat}{k g x:Nat}{s:Nat->Nat}(h:EV n S i q k g)(hx:q[k]?=some x)(hs:S[g]?=some s)(hm:s x∈q):EV n S i q k (g+1):=
 ⟨h.pos,h.nd,h.rch,h.old,fun j y t hj hy ht=>by
  by_cases e:j=g
  .subst e;rw[hs]at ht;injection ht with ht;rw[hx]at hy;injection hy with hy;subst ht hy;exact hm
  .exact h.cur j y t ac hy ht⟩
theorem EV.new{n:Nat}{S:List (Nat->Nat)}{i:Nat}{q:List Nat}{k g x:Nat}{s:Nat->Nat}(h:EV n S i q k g)(hx:q[k]?=some x)(hs:S[g]?=some s)(hm:¬s x∈q):EV n S i (q ++ [s x]) k (g+1):=by
 have hk:=(List.getElem?_eq_some_iff.1 hx).1;have h0:=(List.getElem?_eq_some_iff.1 h.pos).1;refine⟨by rw[List.getElem?_append_left ac];exact h.pos,?_,fun y hy=>?_,fun j y t hj hy ht=>?_,fun j y t hj hy ht=>?_⟩
 .rw[List.nodup_append];exact⟨h.nd,ag,fun a ha b hb e=>by rw[List.mem_singleton.1 hb]at e;subst e;exact hm ha⟩
 .rcases List.mem_append.1 hy with h1|h1
  .exact h.rch y h1
  .rw[List.mem_singleton.1 h1];exact(h.rch x (List.mem_of_getElem? hx)).trans (.of (List.mem_of_getElem? hs) x)
 .rw[List.getElem?_append_left ac]at hy;exact List.mem_append_left _ (h.old j y t hj hy ht)
 .rw[List.getElem?_append_left hk]at hy;by_cases e:j=g
  .subst e;rw[hs]at ht;injection ht with ht;rw[hx]at hy;injection hy with hy;subst ht hy;simp
  .exact List.mem_append_left _ (h.cur j y t ac hy ht)
theorem EV.next{n:Nat}{S:List (Nat->Nat)}{i:Nat}{q:List Nat}{k g:Nat}(h:EV n S i q k g)(hg:S.length<=g):EV n S i q (k+1) 0:=
 ⟨h.pos,h.nd,h.rch,fun j y t hj hy ht=>by
  by_cases e:j=k
  .subst e;obtain⟨m,hm,e2⟩:=List.getElem_of_mem ht;exact h.cur m y t ac hy (by rw[List.getElem?_eq_getElem hm,e2])
  .exact h.old j y t ac hy ht,fun j y t hj=>ac⟩
theorem EV.fin{n:Nat}{S:List (Nat->Nat)}{i:Nat}{q:List Nat}{k g:Nat}(h:EV n S i q k g)(hk:q.length<=k)(y:Nat):y∈q↔Eg S i y:=by
 refine⟨h.rch y,fun hr=>?_⟩;refine Eg.closed (C:=fun x=>x∈q) (fun s hs x hx=>?_) (List.mem_of_getElem? h.pos) hr;obtain⟨j,hj,e⟩:=List.getElem_of_mem hx;exact h.old j x s ac ar hs
theorem EV.seen{n:Nat}{S:List (Nat->Nat)}{i:Nat}{q:List Nat}{k g x:Nat}{s:Nat->Nat}(hl:O0 S i)(h:EV n S i q k g)(hx:q[k]?=some x)(hs:S[g]?=some s)(hm:Ge S i (s x)∨s x∈q):s x∈q:=by
 rcases hm with⟨y,h1,h2⟩|h1
 .have:=hl y (((h.rch x (List.mem_of_getElem? hx)).trans (.of (List.mem_of_getElem? hs) x)).trans h1);omega
 .exact h1
end Go.Proofs.YtehieobniamagaaGreat
