/- Plain: permutations of the points below n as functions; powers, inverses, words in generators. -/
import Derived.Test.YtehieobniamagaaGreatZc10
namespace Go.Proofs.YtehieobniamagaaGreat
open Go.RowKit
set_option linter.all false
set_option maxRecDepth 100000
set_option maxHeartbeats 4000000
theorem Eb:∀(n:Nat) (f:Nat->Nat),(∀i,i<n->f i<n)->(∀i j,i<n->j<n->f i=f j->i=j)->∀y,y<n->∃x,x<n/\f x=y
 | 0,f,_,_,y,hy=>absurd hy (by omega)
 | n+1,f,h1,h2,y,hy=>by
  have hn:=h1 n ac;by_cases hm:f n=n
  .by_cases hyn:y=n
   .exact⟨n,ac,ac⟩
   .obtain⟨x,hx,e⟩:=Eb n f (fun i hi=>by
     have h3:=h1 i ac;have h4:f i≠n:=fun e=>by
      have:=h2 i n ac ac ac;omega
     omega) (fun i j hi hj e=>h2 i j ac ac e) y ac
    exact⟨x,ac,e⟩
  .have aA:=Eb n (fun i=>if f i=n then f n else f i) (fun i hi=>by
     split
     .omega
     .have:=h1 i ac;omega) (fun i j hi hj e=>by
     split at e <;> split at e
     .exact h2 i j ac ac ac
     .have:=h2 n j ac ac e;omega
     .have:=h2 i n ac ac e;omega
     .exact h2 i j ac ac e)
   by_cases hy1:y=f n
   .exact⟨n,ac,hy1.symm⟩
   .by_cases hyn:y=n
    .obtain⟨x,hx,e⟩:=aA (f n) ac;split at e
     .rename_i h;exact⟨x,ac,ac⟩
     .have:=h2 x n ac ac e;omega
    .obtain⟨x,hx,e⟩:=aA y ac;split at e
     .omega
     .exact⟨x,ac,e⟩
structure AY(n:Nat)(f:Nat->Nat):Prop where
 lt:∀i,i<n->f i<n
 off:∀i,n<=i->f i=i
 inj:∀i j,f i=f j->i=j
def DA:Nat->Nat:=fun i=>i
def Ak(f g:Nat->Nat):Nat->Nat:=fun i=>g (f i)
def AS(n:Nat)(f:Nat->Nat):Nat->Nat:=fun j=>if j<n then((List.range n).find? fun i=>f i==j).getD 0 else j
theorem DW(n:Nat):AY n DA:=⟨fun _ h=>h,fun _ _=>rfl,fun _ _ h=>h⟩
theorem AY.of_inj{n:Nat}{f:Nat->Nat}(h1:∀i,i<n->f i<n)(h2:∀i,n<=i->f i=i)(h3:∀i j,i<n->j<n->f i=f j->i=j):AY n f:=
 ⟨h1,h2,fun i j e=>by
  by_cases hi:i<n <;> by_cases hj:j<n
  .exact h3 i j hi hj e
  .have:=h1 i hi;have:=h2 j ac;omega
  .have:=h1 j hj;have:=h2 i ac;omega
  .have:=h2 i ac;have:=h2 j ac;omega⟩
theorem AY.comp{n:Nat}{f g:Nat->Nat}(hf:AY n f)(hg:AY n g):AY n (Ak f g):=
 ⟨fun i hi=>hg.lt _ (hf.lt i hi),fun i hi=>by show g (f i)=i;rw[hf.off i hi,hg.off i hi],fun i j e=>hf.inj i j (hg.inj _ _ e)⟩
theorem AY.surj{n:Nat}{f:Nat->Nat}(hf:AY n f){y:Nat}(hy:y<n):∃x,x<n/\f x=y:=
 Eb n f hf.lt (fun i j _ _ e=>hf.inj i j e) y hy
theorem AY.lt_iff{n:Nat}{f:Nat->Nat}(hf:AY n f)(i:Nat):f i<n↔i<n:=
 ⟨fun h=>by
  by_cases hi:i<n
  .exact hi
  .have:=hf.off i ac;omega,hf.lt i⟩
theorem AY.inv_l{n:Nat}{f:Nat->Nat}(hf:AY n f)(i:Nat):AS n f (f i)=i:=by
 unfold AS;by_cases hi:i<n
 .rw[if_pos (hf.lt i hi)]
  cases h:(List.range n).find? fun k=>f k==f i with
  | none=>
   have:=List.find?_eq_none.1 h i (List.mem_range.2 hi);simp at this
  | some k=>
   have:=List.find?_some h;exact hf.inj k i dv
 .rw[if_neg (by rw[hf.off i ac];exact hi),hf.off i ac]
theorem AY.inv_r{n:Nat}{f:Nat->Nat}(hf:AY n f)(j:Nat):f (AS n f j)=j:=by
 by_cases hj:j<n
 .obtain⟨x,hx,rfl⟩:=hf.surj hj;rw[hf.inv_l]
 .have h1:AS n f j=j:=by unfold AS;rw[if_neg hj]
  rw[h1,hf.off j ac]
theorem AY.inv{n:Nat}{f:Nat->Nat}(hf:AY n f):AY n (AS n f):=
 ⟨fun i hi=>by
   have:=(hf.lt_iff (AS n f i)).1 (by rw[hf.inv_r];exact hi);exact this,fun i hi=>by unfold AS;rw[if_neg ac],fun i j e=>by
   have:=congrArg f e
   rwa[hf.inv_r,hf.inv_r]at this⟩
theorem E9(f g h:Nat->Nat):Ak (Ak f g) h=Ak f (Ak g h):=rfl
theorem AY.then_inv{n:Nat}{f:Nat->Nat}(hf:AY n f):Ak f (AS n f)=DA:=funext fun i=>hf.inv_l i
theorem AY.inv_then{n:Nat}{f:Nat->Nat}(hf:AY n f):Ak (AS n f) f=DA:=funext fun i=>hf.inv_r i
theorem AY.inv_unique{n:Nat}{f g:Nat->Nat}(hf:AY n f)(h:Ak f g=DA):g=AS n f:=by
 have:Ak (AS n f) (Ak f g)=Ak (AS n f) DA:=by rw[h]
 rw[<-E9,hf.inv_then]at this;exact this
theorem OF(n:Nat):AS n DA=DA:=((DW n).inv_unique rfl).symm
theorem AY.cancel{n:Nat}{f r:Nat->Nat}(hr:AY n r):Ak (Ak f (AS n r)) r=f:=by
 rw[E9,hr.inv_then];rfl
theorem Hb{n:Nat}{f g:Nat->Nat}(hf:AY n f)(hg:AY n g)(h:∀i,i<n->f i=g i):f=g:=
 funext fun i=>by
  by_cases hi:i<n
  .exact h i hi
  .rw[hf.off i ac,hg.off i ac]
def Le(f:Nat->Nat):Nat->Nat->Nat
 | 0=>DA
 | k+1=>Ak (Le f k) f
theorem Og(f:Nat->Nat)(a b:Nat):Le f (a+b)=Ak (Le f a) (Le f b):=by
 induction b with
 | zero=>rfl
 | succ b ih=>show Ak (Le f (a+b)) f=_;rw[ih];rfl
theorem LD{n:Nat}{f:Nat->Nat}(hf:AY n f):∀k,AY n (Le f k)
 | 0=>DW n
 | k+1=>(LD hf k).comp hf
theorem JU{f:Nat->Nat}{i k:Nat}(h:Le f k i=i):∀m,Le f (k*m) i=i
 | 0=>rfl
 | m+1=>by
  rw[Nat.mul_succ,Og];show Le f k (Le f (k*m) i)=i
  rw[JU h m,h]
theorem AY.back{n:Nat}{f:Nat->Nat}(hf:AY n f){i:Nat}(hi:i<n):∃k,1<=k/\k<=n/\Le f k i=i:=by
 have aE:¬∀a b,a<n+1->b<n+1->Le f a i=Le f b i->a=b:=fun aA=>by
  obtain⟨x,hx,e⟩:=Eb (n+1) (fun a=>Le f a i) (fun a _=>by have:=(LD hf a).lt i hi;omega) aA n ac;have:=(LD hf x).lt i hi;omega
 have aD:∃a b,a<b/\b<n+1/\Le f a i=Le f b i:=by
  apply Classical.byContradiction;intro aB;refine aE fun a b ha hb e=>?_;apply Classical.byContradiction;intro aC;rcases Nat.lt_or_gt_of_ne aC with h|h
  .exact aB ⟨a,b,h,hb,e⟩
  .exact aB ⟨b,a,h,ha,e.symm⟩
 obtain⟨a,b,aC,hb,e⟩:=aD;refine⟨b-a,ac,ac,?_⟩;have h1:Le f b=Ak (Le f (b-a)) (Le f a):=by rw[<-Og];congr 1;omega
 rw[h1]at e;exact((LD hf a).inj _ _ e).symm
def Qz:Nat->Nat
 | 0=>1
 | k+1=>(k+1)*Qz k
theorem Qx:∀k,1<=Qz k
 | 0=>Nat.le_refl _
 | k+1=>Nat.mul_pos (by omega) (Qx k)
theorem Qy:∀n k,1<=k->k<=n->k ∣ Qz n
 | 0,k,h1,h2=>by omega
 | n+1,k,h1,h2=>by
  by_cases h:k=n+1
  .subst h;exact Nat.dvd_mul_right _ _
  .exact Nat.dvd_trans (Qy n k h1 (by omega)) (Nat.dvd_mul_left _ _)
theorem AY.pw_fac{n:Nat}{f:Nat->Nat}(hf:AY n f):Le f (Qz n)=DA:=by
 refine Hb (LD hf _) (DW n) fun i hi=>?_;obtain⟨k,h1,h2,h3⟩:=hf.back hi;obtain⟨m,hm⟩:=Qy n k h1 h2;rw[hm];exact JU h3 m
inductive Gn(S:List (Nat->Nat)):(Nat->Nat)->Prop
 | one:Gn S DA
 | step {f g:Nat->Nat}:Gn S f->g∈S->Gn S (Ak f g)
structure Yn(n:Nat)(H:(Nat->Nat)->Prop):Prop where
 one:H DA
 mul:∀f g,H f->H g->H (Ak f g)
 inv:∀f,H f->H (AS n f)
 isP:∀f,H f->AY n f
theorem Gn.mul{S:List (Nat->Nat)}{f g:Nat->Nat}(hf:Gn S f)(hg:Gn S g):Gn S (Ak f g):=by
 induction hg with
 | one=>exact hf
 | step _ h ih=>exact ih.step h
theorem Gn.of{S:List (Nat->Nat)}{g:Nat->Nat}(h:g∈S):Gn S g:=Gn.one.step h
theorem Gn.isP{n:Nat}{S:List (Nat->Nat)}(hS:∀s∈S,AY n s){f:Nat->Nat}(h:Gn S f):AY n f:=by
 induction h with
 | one=>exact DW n
 | step _ h ih=>exact ih.comp (hS _ h)
theorem Gn.pw{S:List (Nat->Nat)}{f:Nat->Nat}(h:Gn S f):∀k,Gn S (Le f k)
 | 0=>Gn.one
 | k+1=>(h.pw k).mul h
theorem Gn.inv{n:Nat}{S:List (Nat->Nat)}(hS:∀s∈S,AY n s){f:Nat->Nat}(h:Gn S f):Gn S (AS n f):=by
 have hf:=h.isP hS;have h1:Ak f (Le f (Qz n-1))=DA:=by
  have:Le f (1+(Qz n-1))=DA:=by
   rw[show 1+(Qz n-1)=Qz n from by have:=Qx n;omega];exact hf.pw_fac
  rw[Og]at this;exact this
 rw[<-hf.inv_unique h1];exact h.pw _
theorem Gn.grp{n:Nat}{S:List (Nat->Nat)}(hS:∀s∈S,AY n s):Yn n (Gn S):=
 ⟨.one,fun _ _=> .mul,fun _=> .inv hS,fun _ h=>Gn.isP hS h⟩
theorem Gn.sub{n:Nat}{S:List (Nat->Nat)}{H:(Nat->Nat)->Prop}(hH:Yn n H)(hS:∀s∈S,H s){f:Nat->Nat}(h:Gn S f):H f:=by
 induction h with
 | one=>exact hH.one
 | step _ h ih=>exact hH.mul _ _ ih (hS _ h)
theorem Gn.mono{S T:List (Nat->Nat)}(hS:∀s∈S,Gn T s){f:Nat->Nat}(h:Gn S f):Gn T f:=by
 induction h with
 | one=>exact .one
 | step _ h ih=>exact ih.mul (hS _ h)
def AW(b:Nat)(f:Nat->Nat):Prop:=∀i,i<b->f i=i
theorem Il(b:Nat):AW b DA:=fun _ _=>rfl
theorem AW.comp{b:Nat}{f g:Nat->Nat}(hf:AW b f)(hg:AW b g):AW b (Ak f g):=fun i hi=>by
 show g (f i)=i;rw[hf i hi,hg i hi]
theorem AW.inv{n b:Nat}{f:Nat->Nat}(hP:AY n f)(hf:AW b f):AW b (AS n f):=fun i hi=>by
 have:=hP.inv_l i;rw[hf i hi]at this;exact this
theorem AW.all{n:Nat}{f:Nat->Nat}(hP:AY n f)(hf:AW n f):f=DA:=Hb hP (DW n) hf
theorem AW.div{n b:Nat}{f r:Nat->Nat}(hr:AY n r)(hf:AW b f)(aA:AW b r)(e:r b=f b):AW (b+1) (Ak f (AS n r)):=fun i hi=>by
 by_cases h:i=b
 .subst h;show AS n r (f i)=i;rw[<-e];exact hr.inv_l i
 .exact AW.comp hf (AW.inv hr aA) i ac
structure Tw where
 R:Nat->Nat->Option (Nat->Nat)
 g:Nat->List (Nat->Nat)
def DP(n:Nat)(R:Nat->Nat->Option (Nat->Nat)):Nat->Nat->(Nat->Nat)->(Nat->Nat) × Nat
 | 0,b,f=>(f,b)
 | k+1,b,f=>match R b (f b) with
  | none=>(f,b)
  | some r=>DP n R k (b+1) (Ak f (AS n r))
def Sf(n:Nat)(R:Nat->Nat->Option (Nat->Nat)):Nat->Nat->(Nat->Nat)->Prop
 | 0,_,_=>True
 | k+1,b,f=>∃r,R b (f b)=some r/\Sf n R k (b+1) (Ak f (AS n r))
theorem Nf(n:Nat)(R:Nat->Nat->Option (Nat->Nat)):∀k b f,b<=(DP n R k b f).2/\(DP n R k b f).2<=b+k
 | 0,b,f=>⟨Nat.le_refl _,Nat.le_refl _⟩
 | k+1,b,f=>by
  unfold DP;split
  .exact⟨Nat.le_refl _,by dsimp only;omega⟩
  .have:=Nf n R k (b+1) (Ak f (AS n ‹_›));omega
theorem Rl(n:Nat)(R:Nat->Nat->Option (Nat->Nat)):∀k b f,Sf n R k b f↔(DP n R k b f).2=b+k
 | 0,b,f=>⟨fun _=>rfl,fun _=>trivial⟩
 | k+1,b,f=>by
  unfold DP Sf
  cases h:R b (f b) with
  | none=>exact⟨fun ⟨r,h1,_⟩=>by exact(nomatch h1),fun h1=>by have h1:b=b+(k+1):=h1;omega⟩
  | some r=>
   dsimp only;rw[show b+(k+1)=b+1+k by omega,<-Rl n R k (b+1)];exact⟨fun ⟨r',h1,h2⟩=>by injection h1 with h1;subst h1;exact h2,fun h=>⟨r,rfl,h⟩⟩
theorem Sf.mono{n:Nat}{R R':Nat->Nat->Option (Nat->Nat)}(hR:∀b x r,R b x=some r->R' b x=some r):∀ {k b f},Sf n R k b f->Sf n R' k b f
 | 0,_,_,_=>trivial
 | k+1,b,f,⟨r,h1,h2⟩=>⟨r,hR _ _ _ h1,h2.mono hR⟩
theorem Sf.congr{n c:Nat}{R R':Nat->Nat->Option (Nat->Nat)}(hR:∀b x,c<=b->R b x=R' b x):∀ {k b f},c<=b->Sf n R k b f->Sf n R' k b f
 | 0,_,_,_,_=>trivial
 | k+1,b,f,hb,⟨r,h1,h2⟩=>⟨r,by rw[<-hR b _ hb];exact h1,h2.congr hR (by omega)⟩
structure C8(n:Nat)(t:Tw):Prop where
 rep:∀b x r,t.R b x=some r->b<n/\x<n/\AY n r/\AW b r/\r b=x
 one:∀b,b<n->t.R b b=some DA
 gen:∀b h,h∈t.g b->AY n h/\AW b h
theorem VW{n:Nat}{t:Tw}(hG:C8 n t):∀k b,b+k<=n->Sf n t.R k b DA
 | 0,_,_=>trivial
 | k+1,b,h=>⟨DA,hG.one b (by omega),by rw[OF];exact VW hG k (b+1) (by omega)⟩
def FQ(n:Nat)(R:Nat->Nat->Option (Nat->Nat))(b:Nat)(q:Nat->Nat):Prop:=
 ∃r,R b (q b)=some r/\Sf n R (n-(b+1)) (b+1) (Ak q (AS n r))
theorem FQ.mono{n b:Nat}{R R':Nat->Nat->Option (Nat->Nat)}(hR:∀b x r,R b x=some r->R' b x=some r){q:Nat->Nat}(h:FQ n R b q):FQ n R' b q:=by
 obtain⟨r,h1,h2⟩:=h;exact⟨r,hR _ _ _ h1,h2.mono hR⟩
theorem FQ.congr{n b:Nat}{R R':Nat->Nat->Option (Nat->Nat)}(hR:∀c x,b<=c->R c x=R' c x){q:Nat->Nat}(h:FQ n R b q):FQ n R' b q:=by
 obtain⟨r,h1,h2⟩:=h;exact⟨r,by rw[<-hR b _ (Nat.le_refl _)];exact h1,h2.congr hR ac⟩
structure DN(n:Nat)(t:Tw)(c:Nat):Prop where
 done:∀x r,t.R c x=some r->∀h∈t.g c,FQ n t.R c (Ak r h)
 rep:∀c' x r,c<=c'->t.R c' x=some r->Gn (t.g c) r
 gen:∀c' h,c<=c'->h∈t.g c'->Gn (t.g c) h
theorem DN.congr{n c:Nat}{t t':Tw}(h:DN n t c)(hR:∀b x,c<=b->t.R b x=t'.R b x)(hg:∀b,c<=b->t.g b=t'.g b):DN n t' c:=
 ⟨fun x r hr k hk=>(h.done x r (by rw[hR _ _ (Nat.le_refl _)];exact hr) k (by rw[hg _ (Nat.le_refl _)];exact hk)).congr hR,
 fun c' x r hc hr=>by rw[<-hg _ (Nat.le_refl _)];exact h.rep c' x r hc (by rw[hR _ _ hc];exact hr),
 fun c' k hc hk=>by rw[<-hg _ (Nat.le_refl _)];exact h.gen c' k hc (by rw[hg _ hc];exact hk)⟩
theorem VV{n:Nat}{t:Tw}{H:(Nat->Nat)->Prop}(hG:C8 n t)(hH:Yn n H):∀k b f,b+k=n->(∀c x r,b<=c->t.R c x=some r->H r)->AY n f->AW b f->Sf n t.R k b f->H f
 | 0,b,f,hb,_,hP,hF,_=>by
  have:b=n:=ac;subst this;rw[hF.all hP];exact hH.one
 | k+1,b,f,hb,hr,hP,hF,⟨r,h1,h2⟩=>by
  obtain⟨_,_,h3,h4,h5⟩:=hG.rep _ _ _ h1;have:=VV hG hH k (b+1) (Ak f (AS n r)) ac (fun c x r' hc=>hr c x r' ac) (hP.comp h3.inv) (hF.div h3 h4 h5) h2;have h6:=hH.mul _ _ this (hr _ _ _ (Nat.le_refl _) h1)
  rwa[h3.cancel]at h6
theorem VX{n:Nat}{t:Tw}(hG:C8 n t):∀k b,b+(k+1)=n->(∀c,b<=c->c<n->DN n t c)->∀f,AY n f->AW b f->(Sf n t.R (k+1) b f↔Gn (t.g b) f)
 | k,b,hb,hC,f,hP,hF=>by
  have aG:Yn n (Gn (t.g b)):=Gn.grp fun s hs=>(hG.gen _ _ hs).1;refine⟨fun h=>VV hG aG (k+1) b f hb (fun c x r hc hr=>(hC b (Nat.le_refl _) ac).rep c x r hc hr) hP hF h,fun h=>?_⟩;clear hF hP
  induction h with
  | one=>exact VW hG _ _ ac
  | @step f s hf hs ih=>
   have aD:=hf.isP fun s hs=>(hG.gen _ _ hs).1;have aE:AW b f:=by
    clear ih
    induction hf with
    | one=>exact Il _
    | step hf' hs' ih'=>exact(ih' (hf'.isP fun s hs=>(hG.gen _ _ hs).1)).comp (hG.gen _ _ hs').2
   obtain⟨r,h1,h2⟩:=ih;obtain⟨_,_,h3,h4,h5⟩:=hG.rep _ _ _ h1;obtain⟨r',h6,h7⟩:=(hC b (Nat.le_refl _) ac).done _ _ h1 s hs;obtain⟨_,_,h8,h9,aH⟩:=hG.rep _ _ _ h6;have aA:=(hG.gen _ _ hs);have e1:(Ak r s) b=(Ak f s) b:=by show s (r b)=s (f b);rw[h5]
   refine⟨r',by rw[<-e1];exact h6,?_⟩;have e2:Ak (Ak f s) (AS n r')=Ak (Ak f (AS n r)) (Ak (Ak r s) (AS n r')):=by
    conv=>lhs;rw[<-h3.cancel (f:=f)]
    rfl
   rw[e2];have hk:n-(b+1)=k:=ac;rw[hk]at h7;have hA:=aE.div h3 h4 h5;have hB:AW (b+1) (Ak (Ak r s) (AS n r')):=(h4.comp aA.2).div h8 h9 (by rw[aH]);have aC:=aD.comp h3.inv;have aB:=(h3.comp aA.1).comp h8.inv
   cases k with
   | zero=>trivial
   | succ k=>
    have IH:=VX hG k (b+1) ac fun c hc aF=>hC c ac aF;exact(IH _ (aC.comp aB) (hA.comp hB)).2 (((IH _ aC hA).1 h2).mul ((IH _ aB hB).1 h7))
def Kb(H:(Nat->Nat)->Prop)(b:Nat)(t:Tw):Prop:=(∀c x r,b<=c->t.R c x=some r->H r)/\∀c h,b<=c->h∈t.g c->H h
theorem Kb.up{H:(Nat->Nat)->Prop}{b c:Nat}{t:Tw}(h:Kb H b t)(hc:b<=c):Kb H c t:=⟨fun c' x r h1=>h.1 c' x r ac,fun c' x h1=>h.2 c' x ac⟩
def I6(b:Nat)(t t':Tw):Prop:=∀c,c<b->(∀x,t'.R c x=t.R c x)/\t'.g c=t.g c
theorem I6.refl(b:Nat)(t:Tw):I6 b t t:=fun _ _=>⟨fun _=>rfl,rfl⟩
theorem I6.trans{b:Nat}{t u v:Tw}(h:I6 b t u)(k:I6 b u v):I6 b t v:=fun c hc=>⟨fun x=>by rw[(k c hc).1,(h c hc).1],by rw[(k c hc).2,(h c hc).2]⟩
theorem I6.down{b c:Nat}{t u:Tw}(h:I6 b t u)(hc:c<=b):I6 c t u:=fun d hd=>h d ac
def SH(t t':Tw):Prop:=∀b x r,t.R b x=some r->t'.R b x=some r
theorem SH.trans{t u v:Tw}(h:SH t u)(k:SH u v):SH t v:=fun b x r hr=>k b x r (h b x r hr)
structure Q8(n b:Nat)(p:Nat->Nat)(t t':Tw):Prop where
 good:C8 n t'
 low:I6 b t t'
 le:SH t t'
 comp:∀c,b<=c->c<n->DN n t' c
 mem:Sf n t'.R (n-b) b p
 snd:∀H,Yn n H->Kb H b t->H p->Kb H b t'
structure Ye(n b:Nat)(q:Nat->Nat)(t t':Tw):Prop where
 good:C8 n t'
 low:I6 b t t'
 le:SH t t'
 gb:t'.g b=t.g b
 comp:∀c,b+1<=c->c<n->DN n t' c
 done:FQ n t'.R b q
 new:∀x r,t.R b x=none->t'.R b x=some r->∀h∈t.g b,FQ n t'.R b (Ak r h)
 snd:∀H,Yn n H->Kb H b t->H q->Kb H b t'
theorem Q8.same{n b:Nat}{p:Nat->Nat}{t:Tw}(hG:C8 n t)(hC:∀c,b<=c->c<n->DN n t c)(h:Sf n t.R (n-b) b p):Q8 n b p t t:=
 ⟨hG,I6.refl _ _,fun _ _ _ h=>h,hC,h,fun _ _ h _=>h⟩
theorem Q8.vis{n b:Nat}{q r:Nat->Nat}{t t':Tw}(hb:b<n)(hG:C8 n t)(hr:t.R b (q b)=some r)(h:Q8 n (b+1) (Ak q (AS n r)) t t'):Ye n b q t t':=
 ⟨h.good,h.low.down ac,h.le,(h.low b ac).2,h.comp,⟨r,h.le _ _ _ hr,h.mem⟩,fun x r' h1 h2=>by
  rw[(h.low b ac).1 x,h1]at h2;exact(nomatch h2),fun H hH hS hq=>by
  have h1:=h.snd H hH (hS.up ac) (hH.mul _ _ hq (hH.inv _ (hS.1 _ _ _ (Nat.le_refl _) hr)));refine⟨fun c x r' hc aA=>?_,fun c k hc hk=>?_⟩
  .by_cases e:c=b
   .subst e;rw[(h.low c ac).1 x]at aA;exact hS.1 c x r' (Nat.le_refl _) aA
   .exact h1.1 c x r' ac aA
  .by_cases e:c=b
   .subst e;rw[(h.low c ac).2]at hk;exact hS.2 c k (Nat.le_refl _) hk
   .exact h1.2 c k ac hk⟩
def MF(t:Tw)(b x:Nat)(q:Nat->Nat):Tw:=⟨fun c y=>if c=b/\y=x then some q else t.R c y,t.g⟩
def Sy(t:Tw)(b:Nat)(p:Nat->Nat):Tw:=⟨t.R,fun c=>if c=b then t.g c ++ [p] else t.g c⟩
structure O9(n b:Nat)(q:Nat->Nat)(t t':Tw)(k:Nat):Prop where
 good:C8 n t'
 low:I6 b t t'
 le:SH t t'
 gb:t'.g b=t.g b
 comp:∀c,b+1<=c->c<n->DN n t' c
 rep:t'.R b (q b)=some q
 done:∀j h,j<k->(t.g b)[j]?=some h->FQ n t'.R b (Ak q h)
 new:∀x r,x≠q b->t.R b x=none->t'.R b x=some r->∀h∈t.g b,FQ n t'.R b (Ak r h)
 snd:∀H,Yn n H->Kb H b t->H q->Kb H b t'
theorem O9.start{n b:Nat}{q:Nat->Nat}{t:Tw}(hb:b<n)(hG:C8 n t)(hC:∀c,b+1<=c->c<n->DN n t c)(hP:AY n q)(hF:AW b q)(hr:t.R b (q b)=none):O9 n b q t (MF t b (q b) q) 0:=by
 have aA:SH t (MF t b (q b) q):=fun c x r h=>by
  show(if c=b/\x=q b then some q else t.R c x)=some r
  split
  .rename_i e;rw[e.1,e.2,hr]at h;cases h
  .exact h
 refine⟨⟨fun c x r h=>?_,fun c hc=>aA _ _ _ (hG.one c hc),hG.gen⟩,fun c hc=>⟨fun x=>?_,rfl⟩,aA,rfl,fun c hc aB=>(hC c hc aB).congr (fun d x hd=>?_) (fun _ _=>rfl),?_,fun j h hj=>ac,fun x r hx h1 h2=>?_,fun H hH hS hq=>⟨fun c x r hc h=>?_,hS.2⟩⟩
 .have h:(if c=b/\x=q b then some q else t.R c x)=some r:=h;split at h
  .rename_i e;injection h with h;subst h;rw[e.1,e.2];exact⟨hb,hP.lt _ hb,hP,hF,rfl⟩
  .exact hG.rep c x r h
 .show(if c=b/\x=q b then some q else t.R c x)=t.R c x
  rw[if_neg ac]
 .show t.R d x=(if d=b/\x=q b then some q else t.R d x)
  rw[if_neg ac]
 .show(if b=b/\q b=q b then some q else t.R b (q b))=some q
  rw[if_pos ⟨rfl,rfl⟩]
 .have h2:(if b=b/\x=q b then some q else t.R b x)=some r:=h2;rw[if_neg (fun e=>hx e.2),h1]at h2;cases h2
 .have h:(if c=b/\x=q b then some q else t.R c x)=some r:=h;split at h
  .injection h with h;subst h;exact hq
  .exact hS.1 c x r hc h
theorem O9.step{n b k:Nat}{q h:Nat->Nat}{t u v:Tw}(hl:O9 n b q t u k)(hk:(t.g b)[k]?=some h)(hv:Ye n b (Ak q h) u v):O9 n b q t v (k+1):=
 ⟨hv.good,hl.low.trans hv.low,hl.le.trans hv.le,by rw[hv.gb,hl.gb],hv.comp,hv.le _ _ _ hl.rep,fun j s hj hs=>by
  by_cases e:j=k
  .subst e;rw[hk]at hs;injection hs with hs;subst hs;exact hv.done
  .exact(hl.done j s ac hs).mono hv.le,fun x r hx h1 h2 s hs=>by
  cases hu:u.R b x with
  | none=>exact hv.new x r hu h2 s (by rw[hl.gb];exact hs)
  | some r'=>
   have h3:=hv.le _ _ _ hu;rw[h2]at h3;injection h3 with h3;subst h3;exact(hl.new x r hx h1 hu s hs).mono hv.le,fun H hH hS hq=>by
  have h1:=hl.snd H hH hS hq;exact hv.snd H hH h1 (hH.mul _ _ hq (h1.2 b h (Nat.le_refl _) (by rw[hl.gb];exact List.mem_of_getElem? hk)))⟩
theorem O9.fin{n b k:Nat}{q:Nat->Nat}{t u:Tw}(hb:b<n)(hP:AY n q)(hl:O9 n b q t u k)(hk:(t.g b).length<=k):Ye n b q t u:=
 ⟨hl.good,hl.low,hl.le,hl.gb,hl.comp,⟨q,hl.rep,by rw[hP.then_inv];exact VW hl.good _ _ ac⟩,fun x r h1 h2 s hs=>by
  by_cases e:x=q b
  .subst e;rw[hl.rep]at h2;injection h2 with h2;subst h2;obtain⟨j,hj,e⟩:=List.getElem_of_mem hs;exact hl.done j s ac ar
  .exact hl.new x r e h1 h2 s hs,hl.snd⟩
structure Kc(n b:Nat)(p:Nat->Nat)(t t':Tw)(x:Nat):Prop where
 good:C8 n t'
 low:I6 b t t'
 le:SH t t'
 gb:t'.g b=t.g b ++ [p]
 comp:∀c,b+1<=c->c<n->DN n t' c
 old:∀y r,y<x->t.R b y=some r->FQ n t'.R b (Ak r p)
 new:∀y r,t.R b y=none->t'.R b y=some r->∀h∈t'.g b,FQ n t'.R b (Ak r h)
 snd:∀H,Yn n H->Kb H b t->H p->Kb H b t'
theorem Kc.start{n b:Nat}{p:Nat->Nat}{t:Tw}(hG:C8 n t)(hC:∀c,b+1<=c->c<n->DN n t c)(hP:AY n p)(hF:AW b p):Kc n b p t (Sy t b p) 0:=by
 refine⟨⟨hG.rep,hG.one,fun c h hh=>?_⟩,fun c hc=>⟨fun _=>rfl,?_⟩,fun _ _ _ h=>h,?_,fun c hc aA=>(hC c hc aA).congr (fun _ _ _=>rfl) (fun d hd=>?_),fun y r hy=>ac,fun y r h1 h2=>?_,fun H hH hS hp=>⟨hS.1,fun c h hc hh=>?_⟩⟩
 .have h2:h∈(if c=b then t.g c ++ [p] else t.g c):=hh;by_cases e:c=b
  .subst e;rw[if_pos rfl]at h2;rcases List.mem_append.1 h2 with h1|h1
   .exact hG.gen c h h1
   .rw[List.mem_singleton.1 h1];exact⟨hP,hF⟩
  .rw[if_neg e]at h2;exact hG.gen c h h2
 .show(if c=b then t.g c ++ [p] else t.g c)=t.g c
  rw[if_neg ac]
 .show(if b=b then t.g b ++ [p] else t.g b)=_
  rw[if_pos rfl]
 .show t.g d=(if d=b then t.g d ++ [p] else t.g d)
  rw[if_neg ac]
 .have h2:t.R b y=some r:=h2;rw[h1]at h2;cases h2
 .have hh:h∈(if c=b then t.g c ++ [p] else t.g c):=hh;split at hh
  .rcases List.mem_append.1 hh with h1|h1
   .exact hS.2 c h hc h1
   .rw[List.mem_singleton.1 h1];exact hp
  .exact hS.2 c h hc hh
theorem Kc.skip{n b x:Nat}{p:Nat->Nat}{t u:Tw}(hl:Kc n b p t u x)(h:t.R b x=none):Kc n b p t u (x+1):=
 ⟨hl.good,hl.low,hl.le,hl.gb,hl.comp,fun y r hy hr=>by
  by_cases e:y=x
  .subst e;rw[h]at hr;cases hr
  .exact hl.old y r ac hr,hl.new,hl.snd⟩
theorem Kc.step{n b x:Nat}{p r:Nat->Nat}{t u v:Tw}(hl:Kc n b p t u x)(hr:t.R b x=some r)(hv:Ye n b (Ak r p) u v):Kc n b p t v (x+1):=
 ⟨hv.good,hl.low.trans hv.low,hl.le.trans hv.le,by rw[hv.gb,hl.gb],hv.comp,fun y r' hy aA=>by
  by_cases e:y=x
  .subst e;rw[hr]at aA;injection aA with aA;subst aA;exact hv.done
  .exact(hl.old y r' ac aA).mono hv.le,fun y r' h1 h2 s hs=>by
  rw[hv.gb]at hs
  cases hu:u.R b y with
  | none=>exact hv.new y r' hu h2 s hs
  | some r''=>
   have h3:=hv.le _ _ _ hu;rw[h2]at h3;injection h3 with h3;subst h3;exact(hl.new y r' h1 hu s hs).mono hv.le,fun H hH hS hp=>by
  have h1:=hl.snd H hH hS hp;exact hv.snd H hH h1 (hH.mul _ _ (h1.1 _ _ _ (Nat.le_refl _) (hl.le _ _ _ hr)) hp)⟩
theorem Kc.fin{n b x:Nat}{p:Nat->Nat}{t u:Tw}(hb:b<n)(hG:C8 n t)(hC:∀c,b<=c->c<n->DN n t c)(hP:AY n p)(hF:AW b p)(hl:Kc n b p t u x)(hx:n<=x):Q8 n b p t u:=by
 have aE:Yn n (Gn (u.g b)):=Gn.grp fun s hs=>(hl.good.gen _ _ hs).1;have hp:Gn (u.g b) p:=Gn.of (by rw[hl.gb];simp);have aA:∀f,Gn (t.g b) f->Gn (u.g b) f:=fun f hf=>hf.mono fun s hs=>Gn.of (by rw[hl.gb];exact List.mem_append_left _ hs);have hS:=hl.snd _ aE ⟨fun c x r hc hr=>aA _ ((hC b (Nat.le_refl _) hb).rep c x r hc hr),fun c k hc hk=>aA _ ((hC b (Nat.le_refl _) hb).gen c k hc hk)⟩ hp;have aD:DN n u b:=⟨fun y r hr s hs=>by
   cases h:t.R b y with
   | none=>exact hl.new y r h hr s hs
   | some r'=>
    have h3:=hl.le _ _ _ h;rw[hr]at h3;injection h3 with h3;subst h3;rw[hl.gb]at hs;rcases List.mem_append.1 hs with h1|h1
    .exact((hC b (Nat.le_refl _) hb).done y r h s h1).mono hl.le
    .rw[List.mem_singleton.1 h1];exact hl.old y r (by have:=(hG.rep _ _ _ h).2.1;omega) h,hS.1,hS.2⟩
 have aB:∀c,b<=c->c<n->DN n u c:=fun c hc aC=>by
  by_cases e:c=b
  .subst e;exact aD
  .exact hl.comp c ac aC
 refine⟨hl.good,hl.low,hl.le,aB,?_,hl.snd⟩;obtain⟨k,hk⟩:∃k,n-b=k+1:=⟨n-b-1,ac⟩;rw[hk];exact(VX hl.good k b ac aB p hP hF).2 hp
def Om(n:Nat):Tw:=⟨fun b x=>if b<n/\x=b then some DA else none,fun _=> []⟩
theorem UY(n:Nat):C8 n (Om n):=
 ⟨fun b x r h=>by
  have h:(if b<n/\x=b then some DA else none)=some r:=h;split at h
  .rename_i e;injection h with h;subst h;exact⟨e.1,ac,DW n,Il _,e.2.symm⟩
  .exact(nomatch h),fun b hb=>by
  show(if b<n/\b=b then some DA else none)=some DA
  rw[if_pos ⟨hb,rfl⟩],fun _ _ h=>by cases h⟩
theorem UZ(n c:Nat):DN n (Om n) c:=
 ⟨fun _ _ _ _ h=>by (first|cases h|exact absurd h (List.not_mem_nil)),fun c' x r _ h=>by
  have h:(if c'<n/\x=c' then some DA else none)=some r:=h;split at h
  .injection h with h;subst h;exact .one
  .exact(nomatch h),fun _ _ _ h=>by cases h⟩
structure I7(n:Nat)(S:List (Nat->Nat))(t:Tw)(k:Nat):Prop where
 good:C8 n t
 comp:∀c,c<n->DN n t c
 mem:∀j s,j<k->S[j]?=some s->Sf n t.R n 0 s
 snd:Kb (Gn S) 0 t
theorem I7.start{n:Nat}{S:List (Nat->Nat)}:I7 n S (Om n) 0:=
 ⟨UY n,fun c _=>UZ n c,fun j s h=>ac,fun c x r _ h=>by
  have h:(if c<n/\x=c then some DA else none)=some r:=h;split at h
  .injection h with h;subst h;exact .one
  .exact(nomatch h),fun _ _ _ h=>by cases h⟩
theorem I7.step{n k:Nat}{S:List (Nat->Nat)}{t t':Tw}{s:Nat->Nat}(hS:∀s∈S,AY n s)(h:I7 n S t k)(hs:S[k]?=some s)(hi:Q8 n 0 s t t'):I7 n S t' (k+1):=
 ⟨hi.good,fun c hc=>hi.comp c ac hc,fun j s' hj aA=>by
  by_cases e:j=k
  .subst e;rw[hs]at aA;injection aA with aA;subst aA;exact hi.mem
  .exact(h.mem j s' ac aA).mono hi.le,hi.snd _ (Gn.grp hS) h.snd (Gn.of (List.mem_of_getElem? hs))⟩
theorem sf_up{n:Nat}{t:Tw}(hG:C8 n t){f:Nat->Nat}:∀k b,b+k=n->AW b f->(Sf n t.R n 0 f↔Sf n t.R k b f):=by
 intro k b
 induction b generalizing k with
 | zero=>intro h _;rw[show k=n by omega]
 | succ b ih=>
  intro h hF;rw[ih (k+1) ac (fun i hi=>hF i ac)];have hb:f b=b:=hF b ac;have h1:=hG.one b ac;constructor
  .rintro⟨r,h2,h3⟩;rw[hb,h1]at h2;injection h2 with h2;subst h2;rw[OF]at h3;exact h3
  .intro h3;exact⟨DA,by rw[hb];exact h1,by rw[OF];exact h3⟩
theorem I7.grp{n k:Nat}{S:List (Nat->Nat)}{t:Tw}(hn:1<=n)(hS:∀s∈S,AY n s)(h:I7 n S t k)(hk:S.length<=k){b:Nat}(hb:b<=n){f:Nat->Nat}(hP:AY n f)(hF:AW b f):Sf n t.R (n-b) b f↔Gn S f:=by
 rw[<-sf_up h.good (n-b) b ac hF];obtain⟨m,rfl⟩:∃m,n=m+1:=⟨n-1,ac⟩;have aA:=VX h.good m 0 ac (fun c _ hc=>h.comp c hc);constructor
 .intro h1;exact VV h.good (Gn.grp hS) (m+1) 0 f ac h.snd.1 hP (fun i hi=>ac) h1
 .intro h1;refine(aA f hP (fun i hi=>ac)).2 (h1.mono fun s hs=>?_);obtain⟨j,hj,e⟩:=List.getElem_of_mem hs;exact(aA s (hS s hs) (fun i hi=>ac)).1 (h.mem j s ac ar)
theorem I7.orb{n k:Nat}{S:List (Nat->Nat)}{t:Tw}(hn:1<=n)(hS:∀s∈S,AY n s)(h:I7 n S t k)(hk:S.length<=k){b:Nat}(hb:b<n)(x:Nat):(∃r,t.R b x=some r)↔∃f,Gn S f/\AW b f/\f b=x:=by
 constructor
 .rintro⟨r,hr⟩;obtain⟨_,_,h1,h2,h3⟩:=h.good.rep _ _ _ hr;exact⟨r,h.snd.1 _ _ _ (Nat.zero_le _) hr,h2,h3⟩
 .rintro⟨f,hf,hF,rfl⟩;have:=(h.grp hn hS hk ac (hf.isP hS) hF).2 hf;rw[show n-b=n-(b+1)+1 by omega]at this;obtain⟨r,hr,_⟩:=this;exact⟨r,hr⟩
theorem chkS_01(p m:Int)(ml:List Int):B6 p m ml=0∨B6 p m ml=1:=by
 unfold B6;split
 .exact .inl rfl
 .exact .inr rfl
theorem zbH{P:Prop}(h:P:=by
 go_wp2_with (go_at_call 97;refine aB.o.mono ?_;rintro e w3⟨rfl,rfl⟩)
 go_ret;exact⟨Af HE.o.symm,HX.o.trans aA.o⟩):P:=h
theorem zcT{P:Prop}(h:P:=by
 go_wp2_with fail
 go_ret;exact⟨Af HR.o.symm,HX.o.trans aA.o⟩):P:=h
theorem zcU{P:Prop}(h:P:=by
 go_wp2_with fail
 go_ret;exact⟨Af HE.o.symm,HX.o.trans aA.o⟩):P:=h
theorem PT(w:World)(p m:Int)(ml:List Int)(mv:Value)(aJ:Aj w mv ml)(n:Int)(pl sl:List Int)(pv sv:Value)(hp:Aj w pv pl)(hs:Aj w sv sl)(fr:Int):
  Calls Tryz.prog 43 #[.agg #[p,m,mv],n,.agg #[pv,sv,fr]] w fun r w'=>r= .returned (.int .i64 (CL p m ml n pl sl fr))/\Ex w w':=by
 obtain⟨a0,a1,a2,ea⟩:=Gb w p m mv;obtain⟨b0,b1,b2,eb⟩:=Bh (w.alloc (.cells #[p,m,mv] 24)) pv sv fr;have aP:(w.alloc (.cells #[p,m,mv] 24)).heap.size=w.heap.size+1:=ag;rw[aP]at b0 b1 b2;replace a0:=eb.cell a0;replace a1:=eb.cell a1;replace a2:=eb.cell a2;obtain⟨HX,HM,HP,HS⟩:=Eq (ea.trans eb) aJ hp hs;obtain⟨ma,mc,rfl,-,-,-⟩:=aJ.open;obtain⟨pa,pc,rfl,q1,q2,-⟩:=hp.open;obtain⟨sa,sc,rfl,t1,t2,-⟩:=hs.open;unfold maxLen at q2 t2;obtain⟨M,hM⟩:=nA (CL p m ml n pl sl fr);have aC:=Aa hM;have HC:=Aa (fun (w':World) (h:Ex w w')=>Ib p m ml _ w' (aJ.ex h));rw[hM];obtain⟨B,hB⟩:=nA w.heap.size;rw[hB]at a0 a1 a2 b0 b1 b2;clear aJ hp hs ea eb aP hM;go_enter Tryz.func43,Tryz.ntmps43
 go_upto_region 1 with fail
 try simp only[hB]
 clear hB;generalize (w.alloc (.cells #[p,m,.slice ma ml.length mc] 24)).alloc (.cells #[.slice pa pl.length pc,.slice sa sl.length sc,fr] 26)=w1 at *;have aI:=Aa (fun w' (h:Ex w1 w')=>(⟨h.cell a0,h.cell a1,h.cell a2,h.cell b0,h.cell b1,h.cell b2⟩:_/\_/\_/\_/\_/\_));by_cases hc:B6 p m ml=0
 .obtain⟨pn,mn,rfl,rfl,hf,-⟩:=(BU p m ml).1 hc;have aD:=Aa (HC.o w1 HX.o);rw[hc]at aD;have HF:=Aa hf;have H0:=Aa hc;clear hc hf;go_wp2_with fail
  refine aD.o.mono ?_;rintro e w2⟨rfl,aF⟩;have aA:=Aa aF;clear a0 a1 a2 b0 b1 b2 aF aD;obtain⟨a0,a1,a2,b0,b1,b2⟩:=aI.o w2 aA.o;by_cases hn1:n<1
  .have HR:=Aa (show M=4 from by rw[<-aC.o];unfold CL;rw[H0.o,if_neg ae,if_pos (.inl hn1)]);have k1:decide (n<1)=true:=by simpa using hn1
   exact zcT
  .have k1:decide (n<1)=false:=by simpa using hn1
   by_cases hn2:64<n
   .have HR:=Aa (show M=4 from by rw[<-aC.o];unfold CL;rw[H0.o,if_neg ae,if_pos (.inr hn2)]);have k2:decide (64<n)=true:=by simpa using hn2
    exact zcT
   .have k2:decide (64<n)=false:=by simpa using hn2
    obtain⟨N,rfl⟩:∃N:Nat,n=N:=⟨n.toNat,ac⟩;by_cases aG:pl.length=N
    .have k3:((pl.length:Int) !=(N:Int))=false:=by simp;omega
     by_cases aK:sl.length=N
     .have k4:((sl.length:Int) !=(N:Int))=false:=by simp;omega
      have aM:=Aa (show M=if BD pl N=false∨fr<0∨(mn:Int)<=fr then 6 else if ET pl=true then 18 else E4 (pn^mn) sl from by
       rw[<-aC.o];unfold CL;rw[H0.o,if_neg ae,if_neg ac,if_neg ac];rfl)
      have HL:=Aa (And.intro aG aK);have aB:=Aa (UK w2 pl _ (HP.o.ex (HX.o.trans aA.o)) N);clear aG aK;by_cases hr:BD pl N=true
      .rw[show OX pl N=0 from by unfold OX;rw[if_pos hr]]at aB;have HR:=Aa hr;clear hr;by_cases hf1:fr<0
       .have k5:decide (fr<0)=true:=by simpa using hf1
        have HE:=Aa (show M=6 from by rw[aM.o,if_pos (.inr (.inl hf1))]);exact zbH
       .have k5:decide (fr<0)=false:=by simpa using hf1
        by_cases hf2:(mn:Int)<=fr
        .have k6:decide ((mn:Int)<=fr)=true:=by simpa using hf2
         have HE:=Aa (show M=6 from by rw[aM.o,if_pos (.inr (.inr hf2))]);exact zbH
        .have k6:decide ((mn:Int)<=fr)=false:=by simpa using hf2
         have aQ:=Aa (show M=if ET pl=true then 18 else E4 (pn^mn) sl from by
          rw[aM.o,if_neg];rintro (h|h|h)
          .rw[HR.o]at h;cases h
          .exact hf1 h
          .exact hf2 h)
         have aL:=Aa (Rt w2 pl _ (HP.o.ex (HX.o.trans aA.o)));have aR:=Aa (fun (w':World) (h:Ex w1 w')=>Wg (mv:= .slice ma ml.length mc) w' HF.o sl _ (HS.o.ex (HX.o.trans h)));by_cases hd:ET pl=true
         .rw[hd]at aL;have HE:=Aa (show M=18 from by rw[aQ.o,if_pos hd]);clear hd;go_wp2_with (first|(go_at_call 97;refine aB.o.mono ?_;rintro e w3⟨rfl,rfl⟩)|(go_at_call 98;refine aL.o.mono ?_;rintro e w4⟨rfl,aE⟩;have aH:=Aa aE;clear aE))
          go_ret;exact⟨Af HE.o.symm,HX.o.trans (aA.o.trans aH.o)⟩
         .have hd:ET pl=false:=by simpa using hd
          rw[hd]at aL;have HE:=Aa (show M=E4 (pn^mn) sl from by rw[aQ.o,hd];rfl);obtain⟨F,hF⟩:=nA (E4 (pn^mn) sl);rw[hF]at HE aR;clear hd hF;go_wp2_with (first|(go_at_call 97;refine aB.o.mono ?_;rintro e w3⟨rfl,rfl⟩)|(go_at_call 98;refine aL.o.mono ?_;rintro e w4⟨rfl,aE⟩;have aH:=Aa (aA.o.trans aE);clear aE a0 a1 a2 b0 b1 b2;obtain⟨a0,a1,a2,b0,b1,b2⟩:=aI.o w4 aH.o)|(go_at_call 99;refine(aR.o w4 aH.o).mono ?_;rintro e w5⟨rfl,aN⟩;have aS:=Aa (aH.o.trans aN);clear aN))
          go_ret;exact⟨Af HE.o.symm,HX.o.trans aS.o⟩
      .have hr:BD pl N=false:=by simpa using hr
       rw[show OX pl N=6 from by unfold OX;rw[hr];rfl]at aB;have HE:=Aa (show M=6 from by rw[aM.o,if_pos (.inl hr)]);clear hr;exact zbH
     .have k4:((sl.length:Int) !=(N:Int))=true:=by simp;omega
      have HE:=Aa (show M=3 from by rw[<-aC.o];unfold CL;rw[H0.o,if_neg ae,if_neg ac,if_pos (.inr ac)]);have HL:=Aa (And.intro aG aK);clear aG aK;exact zcU
    .have k3:((pl.length:Int) !=(N:Int))=true:=by simp;omega
     have HE:=Aa (show M=3 from by rw[<-aC.o];unfold CL;rw[H0.o,if_neg ae,if_neg ac,if_pos (.inl ac)]);clear aG;exact zcU
 .have aO:B6 p m ml=1:=by rcases chkS_01 p m ml with h|h;exact absurd h hc;exact h
  have aD:=Aa (HC.o w1 HX.o);rw[aO]at aD;have HR:=Aa (show M=1 from by rw[<-aC.o];unfold CL;rw[if_pos hc]);clear hc aO;go_wp2_with fail
  refine aD.o.mono ?_;rintro e w2⟨rfl,aF⟩;have aA:=Aa (HX.o.trans aF);clear aF;go_wp2_with fail
  go_ret;exact⟨Af HR.o.symm,aA.o⟩
theorem chk_one{p m:Int}{ml:List Int}(h:¬FP p m ml):B6 p m ml=1:=by
 have h1:B6 p m ml≠0:=fun e=>h ((BU p m ml).1 e);unfold B6 at h1 ⊢;split
 .rename_i h2;rw[if_pos h2]at h1;exact absurd rfl h1
 .rfl
theorem SK(w:World)(p m:Int)(ml:List Int)(mv:Value)(aD:Aj w mv ml):
  Calls Tryz.prog 147 #[.agg #[p,m,mv]] w fun r w'=>r= .returned (.int .i64 (B6 p m ml))/\Ex w w':=by
 obtain⟨a0,a1,a2,ea,-⟩:=AD w p m mv;have HE:=Aa ea;have aE:=Aa (aD.ex ea);have aC:=Aa (fun w' (h:Aj w' mv ml)=>Nj p m ml mv w' h);have aA:=Jn p m;obtain⟨R,hR⟩:=nA (B6 p m ml);rw[hR];by_cases hs:KT p m ml=true
 .obtain⟨pn,mn,rfl,rfl,hf,aH,ho⟩:=N5 hs;rw[ho]at aA;rw[hs]at aC;have aJ:=Aa aA;have aK:=Aa (fun w' (h:Aj w' mv ml)=>Hw pn mn ml mv w' hf h);obtain⟨B,hB⟩:∃B:Bool,(B=true↔R=1)/\(B=false↔R=0)/\∀w' v,Pg pn mn ml w' v->∃ga gn gc,v= .slice ga gn gc/\ga.isNone=B:=by
   by_cases hF:Hr pn mn (lw ml)
   .have h0:=(BU _ _ _).2 ⟨pn,mn,rfl,rfl,hf,aH,hF⟩;rw[hR]at h0;subst h0;refine⟨false,ag,ag,fun w' v h=>?_⟩;rcases h with⟨x,x1,x2,hgx,hgv⟩|⟨hno,rfl⟩
    .obtain⟨ga,gc,rfl,g1,g2,g3⟩:=hgv.open;obtain⟨gb,gof,rfl,g4⟩:=g3 (by rw[Ao];have:=Bw hf.p2 hf.m1;omega);exact⟨_,_,_,rfl,rfl⟩
    .exact absurd hF hno
   .have h0:B6 pn mn ml=1:=chk_one fun ⟨a,b,e1,e2,_,_,h⟩=>by
     have aO:pn=a:=ac;have aN:mn=b:=ac;subst aO;subst aN;exact hF h
    rw[hR]at h0;subst h0;refine⟨true,ag,ag,fun w' v h=>?_⟩;rcases h with⟨x,x1,x2,hgx,hgv⟩|⟨hno,rfl⟩
    .exact absurd ⟨x,x1,x2,hgx⟩ hF
    .exact⟨_,_,_,rfl,rfl⟩
  have HB:=Aa hB;have hE:=fun w (a:Option Addr) (l c:Nat)=>AP (P:=Tryz.prog) w 22 3 a l c Tryz.underlying22;clear aA hf aH ho hs hB hR aD ea;obtain⟨q,aG⟩:=nA (pn^mn);rw[aG]at aJ aK;clear aG;go_enter Tryz.func147,Tryz.ntmps147
  go_wp2_with fail
  obtain⟨xb,aB⟩:=nA w.heap.size;rw[aB]at a0 a1 a2
  try simp only[aB]
  clear aB;generalize w.alloc (.cells #[pn,mn,mv] 24)=w1 at *;have G0:Ex w1 w1.drew:=(Ex.refl w1).drew;have A0:=Aa a0;have A1:=Aa a1;have A2:=Aa a2
  first|go_region_with ((first
        | (go_at_call 111;(with_reducible refine(aC.o _ (aE.o.ex G0)).mono ?_);rintro e w2⟨rfl,h2⟩;have X2:=G0.trans h2;have b0:=X2.cell A0.o;have b1:=X2.cell A1.o;have b2:=X2.cell A2.o;clear h2)
        | (go_at_call 112;(with_reducible refine(aJ.o _).mono ?_);rintro e w3⟨rfl,rfl⟩)
        | (go_at_call 113;(with_reducible refine(aK.o _ (aE.o.ex X2)).mono ?_);rintro e w3⟨gv,rfl,aI,aF⟩;have X3:=X2.trans aF;obtain⟨ga,gn,gc,rfl,aL⟩:=HB.o.2.2 _ _ aI;have aM:=fun w=>hE w ga gn gc;rw[aL]at aM;clear aI aF)))|fail
  all_goals
   cases B with
   | true=>
    obtain rfl:=HB.o.1.1 rfl;go_wp2_with fail
    go_ret;exact⟨rfl,HE.o.trans X3⟩
   | false=>
    obtain rfl:=HB.o.2.1.1 rfl;go_wp2_with fail
    go_ret;exact⟨rfl,HE.o.trans X3⟩
 .have hs:KT p m ml=false:=by simpa using hs
  rw[hs]at aC;have hr:=Uc (p:=p) (m:=m) hs;rw[hR]at hr;subst hr;clear hs aA hR aD ea;go_enter Tryz.func147,Tryz.ntmps147
  go_wp2_with fail
  obtain⟨xb,aB⟩:=nA w.heap.size;rw[aB]at a0 a1 a2
  try simp only[aB]
  clear aB;generalize w.alloc (.cells #[p,m,mv] 24)=w1 at *;have G0:Ex w1 w1.drew:=(Ex.refl w1).drew
  first|go_region_with ((go_at_call 111;(with_reducible refine(aC.o _ (aE.o.ex G0)).mono ?_);rintro e w2⟨rfl,h2⟩;have X2:=G0.trans h2;clear h2))|fail
  all_goals
   go_wp2_with fail
   go_ret;exact⟨rfl,HE.o.trans X2⟩
theorem KO(w:World)(p m:Int)(ml:List Int)(mv:Value)(aB:Aj w mv ml)(aA:Int)(rows:List (List Int))(v:Value)(hv:B9 w v rows)(h0:Dx p m ml aA rows=0->1<=aA):
  Calls Tryz.prog 149 #[.agg #[p,m,mv],.agg #[aA,v]] w fun r w'=>(∃e:Int,r= .returned (.int .i64 e)/\MQ p m ml aA rows e)/\Ex w w':=by
 obtain⟨g0,g1,g2,e0,aD⟩:=AD w p m mv;have aC:=Aa (fun (w':World) (h:Ex w w')=>MD w' p m ml mv (aB.ex h) aA rows v (hv.ex h) h0);obtain⟨za,zc,rfl,-,z2,-⟩:=hv.open;unfold maxLen at z2;obtain⟨ma,mc,rfl,-,m2,-⟩:=aB.open;unfold maxLen at m2;clear aB hv h0;go_enter Tryz.func149,Tryz.ntmps149
 go_wp2_with fail
 refine(aC.o _ (e0.trans ((Ex.refl _).alloc _))).mono ?_;rintro e w2⟨⟨g,c,a1,a2,n1,k1,n2,k2,e',rfl,hs⟩,hx⟩;have HX:=Aa ((e0.trans ((Ex.refl _).alloc (.cells #[aA,.slice za rows.length zc] 137))).trans hx);clear hx g0 g1 g2 e0 aD aC;go_wp2_with fail
 go_ret;exact⟨⟨e',rfl,hs⟩,HX.o.alloc _⟩
def BK(p m:Int)(ml:List Int)(n:Int)(rows:List (List Int))(e:Int):Prop:=
 (B6 p m ml≠0/\e=1)∨(B6 p m ml=0/\Ew n≠0/\e=Ew n)∨(B6 p m ml=0/\Ew n=0/\MQ p m ml n rows e)
theorem D9(w:World)(p m:Int)(ml:List Int)(mv:Value)(aE:Aj w mv ml)(n:Int)(rows:List (List Int))(v:Value)(hv:B9 w v rows):
  Calls Tryz.prog 90 #[.agg #[p,m,mv,n,v]] w fun r w'=>(∃e:Int,r= .returned (.int .i64 e)/\BK p m ml n rows e)/\Ex w w':=by
 obtain⟨a0,a1,a2,a3,a4,ea⟩:=EV w p m mv n v;have aH:=Aa (fun (w':World) (h:Ex w w')=>SK w' p m ml mv (aE.ex h));have aM:=Aa (fun (w':World) (h:Ex w w')=>Z6 w' p m mv n rows v (hv.ex h));have aJ:=Aa (fun (h1:Ew n=0) (w':World) (h:Ex w w')=>KO w' p m ml mv (aE.ex h) n rows v (hv.ex h) fun _=>by
  unfold Ew at h1;split at h1
  .cases h1
  .omega)
 have aK:=Aa (fun (w':World)=>Lz w' n);obtain⟨za,zc,rfl,-,z2,-⟩:=hv.open;unfold maxLen at z2;obtain⟨ma,mc,rfl,-,m2,-⟩:=aE.open;unfold maxLen at m2;have HE:=Aa ea;obtain⟨F,hF⟩:=nA (B6 p m ml);obtain⟨L,hL⟩:=nA (Ew n);have aI:=Aa (show ∀e,((F≠0/\e=1)∨(F=0/\L≠0/\e=L)∨(F=0/\L=0/\MQ p m ml n rows e))->BK p m ml n rows e from fun e h=>by unfold BK;rw[hF,hL];exact h);rw[hF]at aH;rw[hL]at aJ aK;clear aE hv ea hF hL;go_enter Tryz.func90,Tryz.ntmps90
 go_wp2_with fail
 obtain⟨xb,aF⟩:=nA w.heap.size;rw[aF]at a0 a1 a2 a3 a4
 try simp only[aF]
 clear aF;generalize w.alloc (.cells #[p,m,.slice ma ml.length mc,n,.slice za rows.length zc] 39)=w1 at *;refine(aH.o w1 HE.o).mono ?_;rintro e w2⟨rfl,aB⟩;obtain⟨A0,A1,A2,A3,A4,aD⟩:=To (aB.cell a0) (aB.cell a1) (aB.cell a2) (aB.cell a3) (aB.cell a4) (HE.o.trans aB);clear a0 a1 a2 a3 a4 aB aH HE;by_cases h1:F=0
 .subst h1;have a3:=A3.o;go_wp2_with fail
  refine(aK.o w2).mono ?_;rintro e w3⟨rfl,rfl⟩;by_cases h2:L=0
  .subst h2;have aG:=Aa (aJ.o rfl);have aA:=Aa (fun e h=>aI.o e (.inr (.inr ⟨by trivial,by trivial,h⟩)));go_wp2_with fail
   have aC:=Aa (fun (w':World) (h':Ex w3 w')=>(⟨h'.cell A0.o,h'.cell A1.o,h'.cell A2.o,h'.cell A3.o,h'.cell A4.o⟩:w'.cell? (xb,0)=some (.int .i64 p)/\w'.cell? (xb,1)=some (.int .i64 m)/\w'.cell? (xb,2)=some (.slice ma ml.length mc)/\w'.cell? (xb,3)=some (.int .i64 n)/\w'.cell? (xb,4)=some (.slice za rows.length zc)));have G0:Ex w3 w3.drew:=(Ex.refl w3).drew;clear a3
   go_region_held3 (fun w'=>w'.cell? (xb,0)=some (.int .i64 p)/\w'.cell? (xb,1)=some (.int .i64 m)/\w'.cell? (xb,2)=some (.slice ma ml.length mc)/\w'.cell? (xb,3)=some (.int .i64 n)/\w'.cell? (xb,4)=some (.slice za rows.length zc))
    (first|with_reducible exact aC.o _ X4|with_reducible exact aC.o _ X3|with_reducible exact aC.o _ G0)
    (first|(go_at_call 104;(with_reducible refine(aM.o _ (aD.o.trans G0)).mono ?_);rintro e w5⟨rfl,h3⟩;have X3:=G0.trans h3;clear h3)|(go_at_call 149;(with_reducible refine(aG.o _ (aD.o.trans X3)).mono ?_);rintro e w4⟨⟨e4,rfl,aL⟩,h4⟩;have X4:=X3.trans h4;clear h4))
   go_wp2_with fail
   go_ret;exact⟨⟨_,rfl,aA.o _ aL⟩,aD.o.trans X4⟩
  .have hb:(L !=0)=true:=by simpa using h2
   have aA:=Aa (aI.o L (.inr (.inl ⟨by trivial,h2,rfl⟩)));clear h2 a3;go_wp2_with fail
   go_ret;exact⟨⟨_,rfl,aA.o⟩,aD.o⟩
 .have hb:(F !=0)=true:=by simpa using h1
  have aA:=Aa (aI.o 1 (.inl ⟨h1,rfl⟩));clear h1;go_wp2_with fail
  go_ret;exact⟨⟨_,rfl,aA.o⟩,aD.o⟩
structure BxC(w:World)(b:Nat):Prop where
 c0:w.cell? (b,0)=some (.int .i64 0)
 c1:w.cell? (b,1)=some (.int .i64 0)
 c2:w.cell? (b,2)=some (.slice none 0 0)
 c3:w.cell? (b,3)=some (.int .i64 0)
 c4:w.cell? (b,4)=some (.slice none 0 0)
 f0:w.frozen? (b,0)=false
 f1:w.frozen? (b,1)=false
 f2:w.frozen? (b,2)=false
 f3:w.frozen? (b,3)=false
 f4:w.frozen? (b,4)=false
theorem BxC.new(w:World):BxC (w.alloc (.cells #[(0:Int),(0:Int),.slice none 0 0,(0:Int),.slice none 0 0] 39)) w.heap.size:=⟨ag,ag,ag,ag,ag,ag,ag,ag,ag,ag⟩
theorem BxC.ex{w w':World}{b:Nat}(h:BxC w b)(hx:Ex w w'):BxC w' b:=⟨hx.cell h.c0,hx.cell h.c1,hx.cell h.c2,hx.cell h.c3,hx.cell h.c4,hx.frz h.c0 h.f0,hx.frz h.c1 h.f1,hx.frz h.c2 h.f2,hx.frz h.c3 h.f3,hx.frz h.c4 h.f4⟩
@[reducible] def set5(w:World)(q:Nat)(a b c d e:Value):World:=((((w.setCell ⟨q,0,none⟩ a).setCell ⟨q,1,none⟩ b).setCell ⟨q,2,none⟩ c).setCell ⟨q,3,none⟩ d).setCell ⟨q,4,none⟩ e
theorem D6{w0 w:World}{q:Nat}(hx:Ex w0 w)(hq:w0.heap.size<=q)(a b c d e:Value):Ex w0 (set5 w q a b c d e):=
 ((((hx.setCell (p:=⟨q,0,none⟩) hq _).setCell (p:=⟨q,1,none⟩) hq _).setCell (p:=⟨q,2,none⟩) hq _).setCell (p:=⟨q,3,none⟩) hq _).setCell (p:=⟨q,4,none⟩) hq _
theorem KU{w:World}{q:Nat}{v:Value}{l:List Int}(h:Aj w v l)(hq:∀B,v.ownBlock=some B->B≠q)(a b c d e:Value):Aj (set5 w q a b c d e) v l:=
 Sl.other (Sl.other (Sl.other (Sl.other (Sl.other h (fun B e=>hq B e) _) (fun B e=>hq B e) _) (fun B e=>hq B e) _) (fun B e=>hq B e) _) (fun B e=>hq B e) _
def OfR(p m:Int)(ml:List Int)(aA:Int)(v:Value)(e:Int)(r:Ending)(w':World)(base:Nat):Prop:=
 (e≠0/\r= .returned (.tuple #[.agg #[(0:Int),(0:Int),.slice none 0 0,(0:Int),.slice none 0 0],e]))∨
 (e=0/\∃v',r= .returned (.tuple #[.agg #[p,m,v',aA,v],(0:Int)])/\Aj w' v' ml/\∀B,v'.ownBlock=some B->base<=B)
theorem Mf(w:World)(p m:Int)(ml:List Int)(mv:Value)(aG:Aj w mv ml)(hn:ml.length<=1000)(aA:Int)(rows:List (List Int))(v:Value)(hv:B9 w v rows)(e:Int):
  Calls Tryz.prog 105 #[.agg #[p,m,mv],.agg #[aA,v],e] w fun r w'=>OfR p m ml aA v e r w' w.heap.size/\Ex w w':=by
 obtain⟨g0,g1,g2,e0,aC⟩:=AD w p m mv;have aV:=Aa (fun (w':World) (h:Ex w w')=>Zv w' p m ml mv (aG.ex h) hn);obtain⟨za,zc,rfl,-,z2,-⟩:=hv.open;unfold maxLen at z2;obtain⟨ma,mc,rfl,-,m2,-⟩:=aG.open;unfold maxLen at m2;obtain⟨xb,aD⟩:=nA w.heap.size;rw[aD]at g0 g1 g2 aC;clear aG hv hn;go_enter Tryz.func105,Tryz.ntmps105
 by_cases h1:e=0
 .subst h1;go_wp2_with fail
  generalize w.alloc (.cells #[p,m,.slice ma ml.length mc] 24)=wA at *;obtain⟨a0,a1,ea⟩:=Dt wA aA (.slice za rows.length zc);have aE:(wA.alloc (.cells #[aA,.slice za rows.length zc] 137)).heap.size=xb+1+1:=by simp[aC]
  rw[aC]at a0 a1;generalize wA.alloc (.cells #[aA,.slice za rows.length zc] 137)=wB at *;have bq:=BxC.new wB;rw[aE]at bq;have eb:Ex wB _:=(Ex.refl wB).alloc (.cells #[(0:Int),(0:Int),.slice none 0 0,(0:Int),.slice none 0 0] 39);obtain⟨A0,A1,G0,G1,G2,EB,aU,BQ,HE⟩:=Ty a0 a1 (ea.cell g0) (ea.cell g1) (ea.cell g2) eb (show wB.heap.size<=xb+1+1 from Nat.le_of_eq aE) bq ((e0.trans ea).trans eb);have aK:(wB.alloc (.cells #[(0:Int),(0:Int),.slice none 0 0,(0:Int),.slice none 0 0] 39)).heap.size=xb+1+1+1:=by simp[aE]
  generalize wB.alloc (.cells #[(0:Int),(0:Int),.slice none 0 0,(0:Int),.slice none 0 0] 39)=wC at *;clear g0 g1 g2 a0 a1 bq e0 ea eb aE aC;have aS:=Aa aD;have aW:=Aa aK;clear aD aK;have X0:Ex wC wC.drew:=(Ex.refl wC).drew;have aB:=Aa (fun (w':World) (h':Ex wB w')=>(⟨h'.cell G0.o,h'.cell G1.o,h'.cell G2.o,h'.cell A0.o,h'.cell A1.o⟩:w'.cell? (xb,0)=some (.int .i64 p)/\w'.cell? (xb,1)=some (.int .i64 m)/\w'.cell? (xb,2)=some (.slice ma ml.length mc)/\w'.cell? (xb+1,0)=some (.int .i64 aA)/\w'.cell? (xb+1,1)=some (.slice za rows.length zc)));have aH:=Aa (fun (w':World) (h':Ex wB w') (a b c d e:Value)=>aB.o _ (D6 h' aU.o a b c d e));have Y0:=Aa (EB.o.trans X0)
  go_region_held3 (fun w'=>w'.cell? (xb,0)=some (.int .i64 p)/\w'.cell? (xb,1)=some (.int .i64 m)/\w'.cell? (xb,2)=some (.slice ma ml.length mc)/\w'.cell? (xb+1,0)=some (.int .i64 aA)/\w'.cell? (xb+1,1)=some (.slice za rows.length zc))
   (first|with_reducible exact aB.o _ Y5.o|with_reducible exact aH.o _ Y5.o _ _ _ _ _|with_reducible exact aB.o _ Y0.o)
   (first|(go_at_call 159;(with_reducible refine(aV.o _ (HE.o.trans X0)).mono ?_);rintro e w5⟨v',rfl,aF,aI,h5⟩;have X5:=X0.trans h5;have Y5:=Aa (EB.o.trans X5);obtain⟨q0,q1,q2,q3,q4,aQ,aP,aO,aN,aM⟩:=BQ.o.ex X5;have aT:=Aa aF;have aL:=Aa aI;obtain⟨va,vc,rfl,-,-,-⟩:=aF.open;clear h5 aF aI))
  all_goals
   go_wp2_with fail
   have hsz:wC.drew.heap.size=xb+1+1+1:=aW.o;have hwx:=aS.o;exact bodyPost_ret (v:= .tuple #[.agg #[p,m,.slice va ml.length vc,aA,.slice za rows.length zc],(0:Int)]) (by simp[results,Tryz.results105,go_sem,q0,q1,q2,q3,q4]) rfl ⟨.inr ⟨rfl,_,rfl,KU aT.o (fun B h=>by have:=aL.o B h;omega) _ _ _ _ _,fun B h=>by have:=aL.o B h;omega⟩,D6 (HE.o.trans X5) ac _ _ _ _ _⟩
 .have hb:(e !=0)=true:=by simpa using h1
  have HH:=Aa h1;have aJ:=Dt (w.alloc (.cells #[p,m,.slice ma ml.length mc] 24)) aA (.slice za rows.length zc);have aR:((w.alloc (.cells #[p,m,.slice ma ml.length mc] 24)).alloc (.cells #[aA,.slice za rows.length zc] 137)).heap.size=xb+1+1:=by simp[aC]
  have bq:=BxC.new ((w.alloc (.cells #[p,m,.slice ma ml.length mc] 24)).alloc (.cells #[aA,.slice za rows.length zc] 137));have HE:=Aa ((e0.trans aJ.2.2).alloc (.cells #[(0:Int),(0:Int),.slice none 0 0,(0:Int),.slice none 0 0] 39));rw[aR]at bq;obtain⟨q0,q1,q2,q3,q4,aQ,aP,aO,aN,aM⟩:=bq;clear h1 aJ g0 g1 g2 e0;go_wp2_with fail
  exact bodyPost_ret (v:= .tuple #[.agg #[(0:Int),(0:Int),.slice none 0 0,(0:Int),.slice none 0 0],e]) (by simp[results,Tryz.results105,go_sem,q0,q1,q2,q3,q4,aD]) rfl ⟨.inl ⟨HH.o,rfl⟩,by first|exact HE.o|exact D6 HE.o ac _ _ _ _ _⟩
theorem UM(p m:Int)(ml:List Int)(mv:Value)(w:World)(aP:Aj w mv ml)(cols:Int)(rows:List (List Int))(v:Value)(hv:B9 w v rows):
  Calls Tryz.prog 145 #[.agg #[p,m,mv],.agg #[cols,v]] w fun r w'=>∃e,r= .returned (.int .i64 e)/\Mv p m ml cols rows e/\Ex w w':=by
 obtain⟨g0,g1,g2,e0,aH⟩:=AD w p m mv;have aV:=Aa aP;have HV:=Aa hv;obtain⟨za,zc,rfl,z1,z2,z3⟩:=hv.open;have Z3:=Aa z3;unfold maxLen at z2;obtain⟨xb,aJ⟩:=nA w.heap.size;rw[aJ]at g0 g1 g2 aH;have aT:=Aa (fun w' h=>Ib p m ml mv w' h);have aI:=Aa (BU p m ml);have aE:=Aa (show B6 p m ml=0∨B6 p m ml=1 by unfold B6;split <;> simp);clear aP hv z3;go_enter Tryz.func145,Tryz.ntmps145
 go_wp2_with fail
 try simp only[aJ]
 generalize w.alloc (.cells #[p,m,mv] 24)=wA at *;have a0:(wA.alloc (.cells #[cols,.slice za rows.length zc] 137)).cell? (xb+1,0)=some (.int .i64 cols):=by rw[<-aH];simp
 have a1:(wA.alloc (.cells #[cols,.slice za rows.length zc] 137)).cell? (xb+1,1)=some (.slice za rows.length zc):=by rw[<-aH];simp
 have eA:Ex wA (wA.alloc (.cells #[cols,.slice za rows.length zc] 137)):=(Ex.refl _).alloc _;generalize wA.alloc (.cells #[cols,.slice za rows.length zc] 137)=wB at *;have b0:=eA.cell g0;have b1:=eA.cell g1;have b2:=eA.cell g2;have eB:=e0.trans eA;clear g0 g1 g2 e0 eA aH aJ wA;refine(aT.o wB (aV.o.ex eB)).mono ?_;rintro r w4⟨rfl,aD⟩;have c0:=aD.cell b0;have c1:=aD.cell b1;have c2:=aD.cell b2;have c3:=aD.cell a0;have c4:=aD.cell a1;have aC:=Aa (eB.trans aD);clear b0 b1 b2 a0 a1 aD eB;by_cases h0:B6 p m ml=0
 .obtain⟨pn,mn,rfl,rfl,aK,aO,aQ⟩:=aI.o.1 h0;have aW:=Aa (show FP pn mn ml from⟨pn,mn,rfl,rfl,aK,aO,aQ⟩);have aY:=Aa (fun w' l v (h:Aj w' v l)=>Iz (mv:=mv) w' aK l v h);have aB:=Aa (show ∀e,e=BV (pn^mn) cols rows->Mv pn mn ml cols rows e from fun e h=> .inl ⟨pn,mn,rfl,rfl,aW.o,h⟩);have HE:=Aa (show BV (pn^mn) cols rows=if cols<0∨256<cols∨256<(rows.length:Int) then 3
 else if (rows.all fun r=>decide ((r.length:Int)=cols))=true then(if (rows.all fun r=>Ce (pn^mn) r==0)=true then 0 else 2) else 3 from rfl)
  rw[h0];clear h0 aK aO aQ aI aE;by_cases h:cols<0∨256<cols∨256<(rows.length:Int)
  .have HR:=Aa (aB.o 3 (by rw[HE.o,if_pos h]));have hc:cols<0∨(0<=cols/\256<cols)∨(0<=cols/\cols<=256/\256<(rows.length:Int)):=by omega
   clear h HE;rcases hc with hc|⟨h1,h2⟩|⟨h1,h2,h3⟩
   all_goals
    go_wp2_with fail
    go_ret;exact⟨_,rfl,HR.o,aC.o⟩
  .have h1:0<=cols:=by omega
   have h2:cols<=256:=ac;have h3:(rows.length:Int)<=256:=ac;have d1:decide (cols<0)=false:=aq;have d2:decide (256<cols)=false:=aq;have d3:decide (256<(rows.length:Int))=false:=aq;have aS:=Aa (show BV (pn^mn) cols rows=if (rows.all fun r=>decide ((r.length:Int)=cols))=true then(if (rows.all fun r=>Ce (pn^mn) r==0)=true then 0 else 2) else 3 by rw[HE.o,if_neg h]);have aU:Ex w4 w4:=Ex.refl _;clear h HE;go_wp2_with fail
   go_loopw [6] (fun i' wr=>∃i:Nat,i<=rows.length/\i'= .int .i64 i/\Hia (∀(j:Nat) (r:List Int),j<i->rows[j]?=some r->(r.length:Int)=cols)/\Ex w4 wr) (fun i' _=>rows.length-(intOf i').toNat)
   case atStart=>exact⟨0,ac,rfl,Aa (fun j x h=>ac),aU⟩
   case round=>
    clear aU;obtain⟨i,hi,rfl,aA,hx⟩:=hrel;have r0:=hx.cell c3;have r1:=hx.cell c4;by_cases hlt:i<rows.length
    .obtain⟨r,hr⟩:∃r,rows[i]?=some r:=⟨_,List.getElem?_eq_getElem hlt⟩;obtain⟨bb,o,rfl,hc⟩:=Z3.o ac;obtain⟨u,e1,hu⟩:=hc i r hr;obtain⟨ua,uc,rfl,u1,u2,u3⟩:=hu.open;have e2:=(aC.o.trans hx).cell e1;have i1:(0:Int)<=(i:Int):=by omega
     have i2:(i:Int)<(rows.length:Int):=ac;unfold maxLen at u2;by_cases hl:(r.length:Int)=cols
     .have hb:((r.length:Int) !=cols)=false:=by simpa using hl
      have HA:=Aa (show ∀(j:Nat) (s:List Int),j<i+1->rows[j]?=some s->(s.length:Int)=cols from fun j s hj hs=>by
       by_cases e:j=i
       .exact zaS
       .exact aA.o j s ac hs)
      clear hl hc e1 hu u3 hr;go_wp2_with fail
      go_quiet (fail)
      go_wp2_with fail
      go_roundw
      case rel=>exact⟨i+1,ac,by go_num,HA,hx.drewN _⟩
      case measure=>simp[intOf];omega
     .have hb:((r.length:Int) !=cols)=true:=by simpa using hl
      have HF:=Aa (aB.o 3 (by
       rw[aS.o,if_neg];intro h;have:=List.all_eq_true.1 h r (List.mem_of_getElem? hr);exact hl dv))
      clear hl hc e1 hu u3 hr;go_wp2_with fail
      go_quiet (fail)
      go_wp2_with fail
      go_ret;exact⟨_,rfl,HF.o,(aC.o.trans hx).drewN _⟩
    .obtain rfl:i=rows.length:=by omega
     have aR:=Aa (show BV (pn^mn) cols rows=if (rows.all fun r=>Ce (pn^mn) r==0)=true then 0 else 2 by
      rw[aS.o,if_pos];rw[List.all_eq_true];intro r hr;obtain⟨j,hj,e⟩:=List.getElem_of_mem hr;exact decide_eq_true (aA.o j r hj ar))
     clear aA;go_wp2_with fail
     obtain⟨wo,rfl⟩:∃wo:World,wo=wr:=⟨_,rfl⟩;clear r0 r1
     go_loopw [5,7] (fun e' i' wr=>∃i:Nat,i<=rows.length/\i'= .int .i64 i/\e'= .int .i64 0/\Hia (∀(j:Nat) (r:List Int),j<i->rows[j]?=some r->Ce (pn^mn) r=0)/\Ex w4 wr) (fun _ i' _=>rows.length-(intOf i').toNat)
     case atStart=>exact⟨0,ac,rfl,rfl,Aa (fun j x h=>ac),hx⟩
     case round=>
      clear hx;obtain⟨i,hi,rfl,rfl,aA,hx⟩:=hrel;have r0:=hx.cell c3;have r1:=hx.cell c4;have s0:=hx.cell c0;have s1:=hx.cell c1;have s2:=hx.cell c2;by_cases hlt:i<rows.length
      .obtain⟨r,hr⟩:∃r,rows[i]?=some r:=⟨_,List.getElem?_eq_getElem hlt⟩;obtain⟨bb,o,rfl,hc⟩:=Z3.o ac;obtain⟨u,e1,hu⟩:=hc i r hr;have aN:=hu.ex (aC.o.trans hx);obtain⟨ua,uc,rfl,u1,u2,u3⟩:=hu.open;have e2:=(aC.o.trans hx).cell e1;have i1:(0:Int)<=(i:Int):=by omega
       have i2:(i:Int)<(rows.length:Int):=ac;have aG:=Aa (aY.o wr.drew r _ aN);have aM:=hx.drew;unfold maxLen at u2;obtain⟨ev,aF⟩:=nA (Ce (pn^mn) r);have aL:ev=0∨ev=2:=by rw[<-aF];exact TW
       rw[aF]at aG;have HA:=Aa (show ev=0->∀(j:Nat) (s:List Int),j<i+1->rows[j]?=some s->Ce (pn^mn) s=0 from fun h0 j s hj hs=>by
        by_cases e:j=i
        .subst e;rw[hr]at hs;injection hs with hs;subst hs;rw[aF,h0]
        .exact aA.o j s ac hs)
       have HF:=Aa (show ev≠0->Mv pn mn ml cols rows 2 from fun h0=>aB.o 2 (by
        rw[aR.o,if_neg];intro h;have:=List.all_eq_true.1 h r (List.mem_of_getElem? hr);rw[aF]at this;exact h0 dv))
       clear hc e1 hu aN u3 hr aF;go_wp2_with fail
       go_region_held3 (fun w'=>w'.cell? (xb,0)=some (.int .i64 pn)/\w'.cell? (xb,1)=some (.int .i64 mn)/\w'.cell? (xb,2)=some mv/\w'.cell? (xb+1,1)=some (.slice (some (bb,o)) rows.length zc)/\w'.cell? (bb,o+i)=some (.slice ua r.length uc))
        (first|exact⟨s0,s1,s2,r1,e2⟩|exact⟨hx5.cell s0,hx5.cell s1,hx5.cell s2,hx5.cell r1,hx5.cell e2⟩)
        ((go_at_call 153;refine aG.o.mono ?_;rintro e w5⟨rfl,hx5⟩))
       rcases aL with h0|h0
       .subst h0;have aZ:=Aa (HA.o rfl);go_wp2_with fail
        go_roundw
        case rel=>exact⟨i+1,ac,by go_num,rfl,aZ,aM.trans hx5⟩
        case measure=>simp[intOf];omega
       .subst h0;have aX:=Aa (HF.o ac);go_wp2_with fail
        go_ret;exact⟨_,rfl,aX.o,aC.o.trans (aM.trans hx5)⟩
      .obtain rfl:i=rows.length:=by omega
       have HF:=Aa (aB.o 0 (by
        rw[aR.o,if_pos];rw[List.all_eq_true];intro r hr;obtain⟨j,hj,e⟩:=List.getElem_of_mem hr;rw[aA.o j r hj ar];rfl))
       go_wp2_with fail
       go_ret;exact⟨_,rfl,HF.o,aC.o.trans hx⟩
 .have h1:B6 p m ml=1:=by rcases aE.o with h|h;exact absurd h h0;exact h
  have HN:=Aa (show Mv p m ml cols rows 1 from .inr ⟨fun h=>h0 (aI.o.2 h),rfl⟩);rw[h1];clear h0 h1 aI aE aT;go_wp2_with fail
  go_ret;exact⟨_,rfl,HN.o,aC.o⟩
def VR(rows:List (List Int)):Nat:=rows.length+(rows.map List.length).sum
def Qw(aA:Int)(rows:List (List Int))(aB:Int):Bool:=decide (aA<=260/\(VR rows:Int)<=aB)
theorem JN:∀(l:List Nat) (i:Nat),(l.take i).sum<=l.sum
 | [],i=>by simp
 | x :: l,0=>by simp
 | x :: l,i+1=>by have:=JN l i;simp;omega
theorem zda{P:Prop}(h:P:=by
 go_wp2_with fail
 go_ret;exact⟨rfl,HE.o⟩):P:=h
theorem zb7{P:Prop}(h:P:=by
 clear HF;go_enter Tryz.func120,Tryz.ntmps120
 exact zda):P:=h
theorem UI(w:World)(aA:Int)(rows:List (List Int))(v:Value)(hv:B9 w v rows)(lim:Int)(hl0:0<=lim)(hl1:lim<=100000):
  Calls Tryz.prog 120 #[.agg #[aA,v],lim] w fun r w'=>r= .returned (.bool (Qw aA rows lim))/\Ex w w':=by
 obtain⟨d0,d1,e0⟩:=Dt w aA v;obtain⟨za,zc,rfl,z1,z2,z3⟩:=(hv.ex e0).open;have Z3:=Aa z3;unfold maxLen at z2;have HE:=Aa e0;clear hv z3 e0;obtain⟨F,hF⟩:=nA (Qw aA rows lim);have HF:=Aa (show F=decide (aA<=260/\(VR rows:Int)<=lim) from hF.symm);rw[hF];clear hF;by_cases h1:260<aA
 .have hF:F=false:=by rw[HF.o];exact decide_eq_false ac
  subst hF;exact zb7
 .have aB:aA<=260:=by omega
  clear h1;by_cases h2:lim<(rows.length:Int)
  .have hF:F=false:=by rw[HF.o];exact decide_eq_false (by unfold VR;omega)
   subst hF;exact zb7
  .have h2':(rows.length:Int)<=lim:=by omega
   have b1:decide (260<aA)=false:=aq;have b2:decide (lim<(rows.length:Int))=false:=aq;clear h2;go_enter Tryz.func120,Tryz.ntmps120
   go_wp2_with fail
   generalize w.alloc (.cells #[aA,.slice za rows.length zc] 137)=w1 at *
   go_loopw [5,6] (fun l' i' wr=>∃(i:Nat) (l:Int),i<=rows.length/\i'= .int .i64 i/\l'= .int .i64 l/\0<=l/\l<=100000/\Hia (l=lim-rows.length-(((rows.map List.length).take i).sum:Nat))/\wr=w1) (fun _ i' _=>rows.length-(intOf i').toNat)
   case atStart=>exact⟨0,lim-rows.length,ac,rfl,by go_num,ac,ac,Aa ag,rfl⟩
   case round=>
    obtain⟨i,l,hi,rfl,rfl,l1,l2,hl,rfl⟩:=hrel;by_cases hlt:i<rows.length
    .obtain⟨r,hr⟩:∃r,rows[i]?=some r:=⟨_,List.getElem?_eq_getElem hlt⟩;have HS:=Aa (show((rows.map List.length).take (i+1)).sum=((rows.map List.length).take i).sum+r.length from by
      rw[List.take_add_one,List.getElem?_map,hr];simp)
     have HT:=Aa (JN (rows.map List.length) (i+1));obtain⟨bb,o,rfl,hc⟩:=Z3.o ac;obtain⟨u,c1,hu⟩:=hc i r hr;obtain⟨ua,uc,rfl,u1,u2,u3⟩:=hu.open;unfold maxLen at u2;clear hc hu u3 hr;by_cases h3:l<(r.length:Int)
     .have hF:F=false:=by
       rw[HF.o];have s1:=hl.o;have s2:=HS.o;have s3:=HT.o;exact decide_eq_false (by unfold VR;omega)
      subst hF;clear HF HS HT hl;exact zda
     .have h3':(r.length:Int)<=l:=by omega
      have HL:=Aa (show l-r.length=lim-rows.length-(((rows.map List.length).take (i+1)).sum:Nat) from by
       have s1:=hl.o;have s2:=HS.o;omega)
      clear h3 HS HT hl;go_wp2_with fail
      go_roundw
      case rel=>exact⟨i+1,_,ac,by go_num,(by first|rfl|trivial),ac,ac,HL,(by first|rfl|trivial)⟩
      case measure=>simp[intOf];omega
    .obtain rfl:i=rows.length:=by omega
     have hF:F=true:=by
      rw[HF.o];have s1:=hl.o;rw[List.take_of_length_le ag]at s1;exact decide_eq_true ⟨aB,by unfold VR;omega⟩
     subst hF;clear hl HF;exact zda
def Ej(S:List (Nat->Nat))(x y:Nat):Prop:=∃f,Gn S f/\f x=y
theorem Ej.refl(S:List (Nat->Nat))(x:Nat):Ej S x x:=⟨DA,.one,rfl⟩
theorem Ej.trans{S:List (Nat->Nat)}{x y z:Nat}(h:Ej S x y)(k:Ej S y z):Ej S x z:=by
 obtain⟨f,hf,rfl⟩:=h;obtain⟨g,hg,rfl⟩:=k;exact⟨_,hf.mul hg,rfl⟩
theorem Ej.symm{n:Nat}{S:List (Nat->Nat)}(hS:∀s∈S,AY n s){x y:Nat}(h:Ej S x y):Ej S y x:=by
 obtain⟨f,hf,rfl⟩:=h;exact⟨_,hf.inv hS,(hf.isP hS).inv_l x⟩
theorem Ej.of{S:List (Nat->Nat)}{s:Nat->Nat}(h:s∈S)(x:Nat):Ej S x (s x):=⟨s,Gn.of h,rfl⟩
theorem Ej.lt{n:Nat}{S:List (Nat->Nat)}(hS:∀s∈S,AY n s){x y:Nat}(hx:x<n)(h:Ej S x y):y<n:=by
 obtain⟨f,hf,rfl⟩:=h;exact(hf.isP hS).lt x hx
theorem Ej.closed{S:List (Nat->Nat)}{C:Nat->Prop}(hC:∀s∈S,∀x,C x->C (s x)){x y:Nat}(hx:C x)(h:Ej S x y):C y:=by
 obtain⟨f,hf,rfl⟩:=h
 induction hf with
 | one=>exact hx
 | step _ hs ih=>exact hC _ hs _ ih
def Pc(S:List (Nat->Nat))(i:Nat):Prop:=∀y,Ej S i y->i<=y
open Classical in
noncomputable def Wt (n:Nat) (S:List (Nat->Nat)) (i:Nat):List Nat:=(List.range n).filter fun y=>decide (Ej S i y)
noncomputable def RJ(n:Nat)(S:List (Nat->Nat))(i:Nat):List Int:=(Wt n S i).map fun (y:Nat)=>(y:Int)
open Classical in
noncomputable def Dz (n:Nat) (S:List (Nat->Nat)) (m:Nat):List (List Int):=((List.range m).filter fun i=>decide (Pc S i)).map (RJ n S)
open Classical in
theorem WJ {n:Nat} {S:List (Nat->Nat)} {i y:Nat}:y∈Wt n S i↔y<n/\Ej S i y:=by
 unfold Wt;rw[List.mem_filter,List.mem_range,decide_eq_true_eq]
theorem Ws(n:Nat)(S:List (Nat->Nat))(i:Nat):(Wt n S i).Pairwise (·< ·):=List.Pairwise.filter _ List.pairwise_lt_range
theorem QU:∀ {l k:List Nat},l.Pairwise (·< ·)->k.Pairwise (·< ·)->(∀x,x∈l↔x∈k)->l=k
 | [], [],_,_,_=>rfl
 | [],b :: k,_,_,h=>absurd ((h b).2 (List.mem_cons_self ..)) (List.not_mem_nil)
 | a :: l, [],_,_,h=>absurd ((h a).1 (List.mem_cons_self ..)) (List.not_mem_nil)
 | a :: l,b :: k,hl,hk,h=>by
  obtain⟨aA,aC⟩:=List.pairwise_cons.1 hl;obtain⟨aB,aD⟩:=List.pairwise_cons.1 hk;have aE:a=b:=by
   rcases List.mem_cons.1 ((h a).1 (List.mem_cons_self ..)) with h1|h1
   .exact h1
   .rcases List.mem_cons.1 ((h b).2 (List.mem_cons_self ..)) with h2|h2
    .exact h2.symm
    .have:=aB a h1;have:=aA b h2;omega
  subst aE
  congr 1
  refine QU aC aD fun x=>?_;constructor
  .intro hx;rcases List.mem_cons.1 ((h x).1 (List.mem_cons_of_mem _ hx)) with h1|h1
   .have:=aA x hx;omega
   .exact h1
  .intro hx;rcases List.mem_cons.1 ((h x).2 (List.mem_cons_of_mem _ hx)) with h1|h1
   .have:=aB x hx;omega
   .exact h1
theorem Lk(n:Nat)(S:List (Nat->Nat))(m:Nat):(Pc S m->Dz n S (m+1)=Dz n S m ++ [RJ n S m])/\(¬Pc S m->Dz n S (m+1)=Dz n S m):=by
 unfold Dz;rw[List.range_succ,List.filter_append,List.map_append];constructor
 .intro h;simp[List.filter,h]
 .intro h;simp[List.filter,h]
theorem UP(n:Nat)(S:List (Nat->Nat))(m:Nat):(Dz n S m).length<=m:=by
 unfold Dz;rw[List.length_map];exact Nat.le_trans (List.length_filter_le _ _) ag
def Gm(S:List (Nat->Nat))(i x:Nat):Prop:=∃y,Ej S x y/\y<i
theorem H4{S:List (Nat->Nat)}{i:Nat}:Gm S i i↔¬Pc S i:=by
 constructor
 .rintro⟨y,h1,h2⟩ h3;have:=h3 y h1;omega
 .intro h;apply Classical.byContradiction;intro h2;refine h fun y hy=>?_;apply Classical.byContradiction;intro h3;exact h2 ⟨y,hy,ac⟩
theorem KW{n:Nat}{S:List (Nat->Nat)}(hS:∀s∈S,AY n s){i x:Nat}:Gm S (i+1) x↔Gm S i x∨Ej S i x:=by
 constructor
 .rintro⟨y,h1,h2⟩;by_cases h:y<i
  .exact .inl ⟨y,h1,h⟩
  .have:y=i:=by omega
   subst this;exact .inr (h1.symm hS)
 .rintro (⟨y,h1,h2⟩|h)
  .exact⟨y,h1,ac⟩
  .exact⟨i,h.symm hS,ac⟩
theorem VY{n:Nat}{S:List (Nat->Nat)}(hS:∀s∈S,AY n s){i x:Nat}(h:¬Pc S i):Gm S (i+1) x↔Gm S i x:=by
 rw[KW hS];constructor
 .rintro (h1|h1)
  .exact h1
  .obtain⟨y,h2,h3⟩:=H4.2 h;exact⟨y,(h1.symm hS).trans h2,h3⟩
 .exact .inl
structure E7(n:Nat)(S:List (Nat->Nat))(i:Nat)(q:List Nat)(k g:Nat):Prop where
 pos:q[0]?=some i
 nd:q.Nodup
 rch:∀x∈q,Ej S i x
 old:∀j x s,j<k->q[j]?=some x->s∈S->s x∈q
 cur:∀j x s,j<g->q[k]?=some x->S[j]?=some s->s x∈q
theorem E7.lt{n:Nat}{S:List (Nat->Nat)}(hS:∀s∈S,AY n s){i:Nat}{q:List Nat}{k g:Nat}(hi:i<n)(h:E7 n S i q k g):∀x∈q,x<n:=fun x hx=>(h.rch x hx).lt hS hi
theorem UW{q:List Nat}(aA:q.Nodup){i j:Nat}(hi:i<q.length)(hj:j<q.length)(e:q[i]=q[j]):i=j:=by
 have h:=List.pairwise_iff_getElem.1 (List.nodup_iff_pairwise_ne.1 aA);rcases Nat.lt_trichotomy i j with h1|h1|h1
 .exact absurd e (h i j hi hj h1)
 .exact h1
 .exact absurd e.symm (h j i hj hi h1)
theorem UV:∀(n:Nat) (q:List Nat),q.Nodup->(∀x∈q,x<n)->q.length<=n:=by
 intro n q aB aC;apply Classical.byContradiction;intro hn;have aA:∀i,i<n+1->q.getD i 0<n:=fun i hi=>by
  rw[List.getD_eq_getElem?_getD,List.getElem?_eq_getElem ac];exact aC _ (List.getElem_mem _)
 obtain⟨x,hx,e⟩:=Eb (n+1) (fun i=>q.getD i 0) (fun i hi=>by have:=aA i hi;omega) (fun i j hi hj e=>by
  simp only[List.getD_eq_getElem?_getD]at e;rw[List.getElem?_eq_getElem ac,List.getElem?_eq_getElem ac]at e;injection (show some q[i]=some q[j] from congrArg some e) with e;exact UW aB ac ac e) n ac
 have:=aA x hx;omega
theorem E7.len{n:Nat}{S:List (Nat->Nat)}(hS:∀s∈S,AY n s){i:Nat}{q:List Nat}{k g:Nat}(hi:i<n)(h:E7 n S i q k g):1<=q.length/\q.length<=n:=
 ⟨by have:=(List.getElem?_eq_some_iff.1 h.pos).1;omega,UV n q h.nd (h.lt hS hi)⟩
theorem E7.start(n:Nat)(S:List (Nat->Nat))(i:Nat):E7 n S i [i] 0 0:=
 ⟨rfl,ag,fun x hx=>by rw[List.mem_singleton.1 hx];exact .refl _ _,fun j x s h=>ac,fun j x s h=>ac⟩
theorem E7.hit{n:Nat}{S:List (Nat->Nat)}{i:Nat}{q:List Nat}{k g x:Nat}{s:Nat->Nat}(h:E7 n S i q k g)(hx:q[k]?=some x)(hs:S[g]?=some s)(hm:s x∈q):E7 n S i q k (g+1):=
 ⟨h.pos,h.nd,h.rch,h.old,fun j y t hj hy ht=>by
  by_cases e:j=g
  .subst e;rw[hs]at ht;injection ht with ht;rw[hx]at hy;injection hy with hy;subst ht hy;exact hm
  .exact h.cur j y t ac hy ht⟩
theorem E7.new{n:Nat}{S:List (Nat->Nat)}{i:Nat}{q:List Nat}{k g x:Nat}{s:Nat->Nat}(h:E7 n S i q k g)(hx:q[k]?=some x)(hs:S[g]?=some s)(hm:¬s x∈q):E7 n S i (q ++ [s x]) k (g+1):=by
 have hk:=(List.getElem?_eq_some_iff.1 hx).1;have h0:=(List.getElem?_eq_some_iff.1 h.pos).1;refine⟨by rw[List.getElem?_append_left ac];exact h.pos,?_,fun y hy=>?_,fun j y t hj hy ht=>?_,fun j y t hj hy ht=>?_⟩
 .rw[List.nodup_append];exact⟨h.nd,ag,fun a ha b hb e=>by rw[List.mem_singleton.1 hb]at e;subst e;exact hm ha⟩
 .rcases List.mem_append.1 hy with h1|h1
  .exact h.rch y h1
  .rw[List.mem_singleton.1 h1];exact(h.rch x (List.mem_of_getElem? hx)).trans (.of (List.mem_of_getElem? hs) x)
 .rw[List.getElem?_append_left ac]at hy;exact List.mem_append_left _ (h.old j y t hj hy ht)
 .rw[List.getElem?_append_left hk]at hy;by_cases e:j=g
  .subst e;rw[hs]at ht;injection ht with ht;rw[hx]at hy;injection hy with hy;subst ht hy;simp
  .exact List.mem_append_left _ (h.cur j y t ac hy ht)
theorem E7.next{n:Nat}{S:List (Nat->Nat)}{i:Nat}{q:List Nat}{k g:Nat}(h:E7 n S i q k g)(hg:S.length<=g):E7 n S i q (k+1) 0:=
 ⟨h.pos,h.nd,h.rch,fun j y t hj hy ht=>by
  by_cases e:j=k
  .subst e;obtain⟨m,hm,e2⟩:=List.getElem_of_mem ht;exact h.cur m y t ac hy (by rw[List.getElem?_eq_getElem hm,e2])
  .exact h.old j y t ac hy ht,fun j y t hj=>ac⟩
theorem E7.fin{n:Nat}{S:List (Nat->Nat)}{i:Nat}{q:List Nat}{k g:Nat}(h:E7 n S i q k g)(hk:q.length<=k)(y:Nat):y∈q↔Ej S i y:=by
 refine⟨h.rch y,fun hr=>?_⟩;refine Ej.closed (C:=fun x=>x∈q) (fun s hs x hx=>?_) (List.mem_of_getElem? h.pos) hr;obtain⟨j,hj,e⟩:=List.getElem_of_mem hx;exact h.old j x s ac ar hs
theorem E7.seen{n:Nat}{S:List (Nat->Nat)}{i:Nat}{q:List Nat}{k g x:Nat}{s:Nat->Nat}(hl:Pc S i)(h:E7 n S i q k g)(hx:q[k]?=some x)(hs:S[g]?=some s)(hm:Gm S i (s x)∨s x∈q):s x∈q:=by
 rcases hm with⟨y,h1,h2⟩|h1
 .have:=hl y (((h.rch x (List.mem_of_getElem? hx)).trans (.of (List.mem_of_getElem? hs) x)).trans h1);omega
 .exact h1
def Fe(n:Nat)(f g:Nat->Nat):Prop:=(∀i,i<n->f i=g i)∨∃i,i<n/\(∀j,j<i->f j=g j)/\f i<g i
theorem Fe.antisymm{n:Nat}{f g:Nat->Nat}(hf:AY n f)(hg:AY n g)(h:Fe n f g)(k:Fe n g f):f=g:=by
 rcases h with h|⟨i,hi,h1,h2⟩
 .exact Hb hf hg h
 .rcases k with k|⟨j,hj,k1,k2⟩
  .have:=k i hi;omega
  .rcases Nat.lt_trichotomy i j with e|e|e
   .have:=k1 i e;omega
   .subst e;omega
   .have:=h1 j e;omega
def C6(R:Nat->Option (Nat->Nat))(p:Nat->Nat)(c:Nat):Nat->Nat
 | 0=>c
 | x+1=>if (R x).isSome=true/\p x<p (C6 R p c x) then x else C6 R p c x
theorem GW{R:Nat->Option (Nat->Nat)}{p:Nat->Nat}{c:Nat}(hc:(R c).isSome=true):∀x,(R (C6 R p c x)).isSome=true/\(∀y,y<x->(R y).isSome=true->p (C6 R p c x)<=p y)/\p (C6 R p c x)<=p c
 | 0=>⟨hc,fun y h=>by omega,Nat.le_refl _⟩
 | x+1=>by
  obtain⟨h1,h2,h3⟩:=GW (p:=p) hc x;unfold C6;split
  .rename_i h;refine⟨h.1,fun y hy hr=>?_,ac⟩;by_cases e:y=x
   .subst e;exact Nat.le_refl _
   .have:=h2 y ac hr;omega
  .rename_i h;refine⟨h1,fun y hy hr=>?_,h3⟩;by_cases e:y=x
   .subst e;apply Classical.byContradiction;intro hn;exact h ⟨hr,ac⟩
   .exact h2 y ac hr
def T9(n:Nat)(R:Nat->Nat->Option (Nat->Nat)):Nat->Nat->(Nat->Nat)->(Nat->Nat)
 | 0,_,p=>p
 | k+1,c,p=>T9 n R k (c+1) (Ak ((R c (C6 (R c) p c n)).getD DA) p)
theorem QN{n:Nat}{t:Tw}(hG:C8 n t):∀k c p,c+k=n->AY n p->
  (∃h,AY n h/\AW c h/\Sf n t.R k c h/\T9 n t.R k c p=Ak h p)/\∀h,AY n h->AW c h->Sf n t.R k c h->Fe n (T9 n t.R k c p) (Ak h p)
 | 0,c,p,hc,hp=>by
  refine⟨⟨DA,DW n,Il _,trivial,rfl⟩,fun h hP hF _=> .inl fun i hi=>?_⟩;have:h=DA:=AW.all hP (by
    have:c=n:=ac;subst this;exact hF)
  subst this;rfl
 | k+1,c,p,hc,hp=>by
  have aF:=hG.one c ac;obtain⟨aL,aK,_⟩:=GW (R:=t.R c) (p:=p) (c:=c) (by rw[aF];rfl) n;obtain⟨r,hr⟩:=Option.isSome_iff_exists.1 aL;obtain⟨_,hbn,aB,aE,aD⟩:=hG.rep _ _ _ hr;obtain⟨⟨h0,aN,aH,aM,aG⟩,hL⟩:=QN hG k (c+1) (Ak r p) ac (aB.comp hp);have he:T9 n t.R (k+1) c p=T9 n t.R k (c+1) (Ak r p):=by
   show T9 n t.R k (c+1) (Ak ((t.R c (C6 (t.R c) p c n)).getD DA) p)=_
   rw[hr];rfl
  rw[he];have aC:∀i,i<c->h0 i=i:=fun i hi=>aH i ac;refine⟨⟨Ak h0 r,aN.comp aB,fun i hi=>?_,⟨r,?_,?_⟩,?_⟩,fun h hP hF hS=>?_⟩
  .show r (h0 i)=i
   rw[aC i hi,aE i hi]
  .show t.R c (r (h0 c))=some r
   rw[aH c ac,aD];exact hr
  .rw[E9,aB.then_inv];exact aM
  .rw[aG];rfl
  .obtain⟨s,aA,aJ⟩:=hS;obtain⟨_,aI,hsP,hsF,hsb⟩:=hG.rep _ _ _ aA;have hle:=aK (h c) aI (by rw[aA];rfl);by_cases e:p (C6 (t.R c) p c n)=p (h c)
   .have e2:=hp.inj _ _ e;rw[<-e2,hr]at aA;injection aA with aA;subst aA;have:=hL (Ak h (AS n r)) (hP.comp aB.inv) (hF.div aB aE (by rw[aD,e2])) aJ
    rwa[<-E9,aB.cancel]at this
   .right;refine⟨c,ac,fun j hj=>?_,?_⟩
    .rw[aG];show p (r (h0 j))=p (h j)
     rw[aC j hj,aE j hj,hF j hj]
    .rw[aG];show p (r (h0 c))<p (h c)
     rw[aH c ac,aD];omega
structure DZ(n:Nat)(S:List (Nat->Nat))(b x:Nat)(f:Nat->Nat):Prop where
 gn:Gn S f
 fix:AW b f
 at_:f b=x
 le:∀g,Gn S g->AW b g->g b=x->Fe n f g
theorem DZ.uniq{n:Nat}{S:List (Nat->Nat)}(hS:∀s∈S,AY n s){b x:Nat}{f g:Nat->Nat}(hf:DZ n S b x f)(hg:DZ n S b x g):f=g:=
 Fe.antisymm (hf.gn.isP hS) (hg.gn.isP hS) (hf.le g hg.gn hg.fix hg.at_) (hg.le f hf.gn hf.fix hf.at_)
theorem I7.canon{n k:Nat}{S:List (Nat->Nat)}{t:Tw}(hn:1<=n)(hS:∀s∈S,AY n s)(h:I7 n S t k)(hk:S.length<=k){b x:Nat}(hb:b<n){r:Nat->Nat}(hr:t.R b x=some r):DZ n S b x (T9 n t.R (n-(b+1)) (b+1) r):=by
 obtain⟨_,_,aA,aF,aD⟩:=h.good.rep _ _ _ hr;obtain⟨⟨h0,aJ,aC,aI,aB⟩,hL⟩:=QN h.good (n-(b+1)) (b+1) r ac aA;have aK:=(h.grp hn hS hk ac aJ aC).1 aI;have aE:Gn S r:=h.snd.1 b x r (Nat.zero_le _) hr;refine⟨by rw[aB];exact aK.mul aE,fun i hi=>?_,?_,fun g hg hF aH=>?_⟩
 .rw[aB];show r (h0 i)=i
  rw[aC i ac,aF i hi]
 .rw[aB];show r (h0 b)=x
  rw[aC b ac,aD]
 .have aG:=hg.isP hS;have h1:AW (b+1) (Ak g (AS n r)):=hF.div aA aF (by rw[aD,aH]);have h2:=(h.grp hn hS hk ac (aG.comp aA.inv) h1).2 (hg.mul (aE.inv hS));have:=hL _ (aG.comp aA.inv) h1 h2
  rwa[aA.cancel]at this
open Classical in
noncomputable def CH (n:Nat) (S:List (Nat->Nat)) (b x:Nat):Nat->Nat:=if h:∃f,DZ n S b x f then Classical.choose h else DA
open Classical in
theorem Kj {n:Nat} {S:List (Nat->Nat)} (hS:∀s∈S,AY n s) {b x:Nat} {f:Nat->Nat} (h:DZ n S b x f):CH n S b x=f:=by
 have he:∃f,DZ n S b x f:=⟨f,h⟩;unfold CH;rw[dif_pos he];exact DZ.uniq hS (Classical.choose_spec he) h
structure Lv where
 pt:Int
 orb:List Int
 reps:List (List Int)
end Go.Proofs.YtehieobniamagaaGreat
