/- Plain: permutations of the points below n as functions; powers, inverses, words in generators. -/
import Derived.Test.YtehieobniamagaaGreatRows
import Derived.Test.YtehieobniamagaaGreatZp01
import Derived.Test.YtehieobniamagaaGreatZp07
import Derived.Test.YtehieobniamagaaGreatZp08
import Derived.Test.YtehieobniamagaaGreatZp13
namespace Go.Proofs.YtehieobniamagaaGreat
set_option linter.unusedVariables false
set_option linter.unusedSimpArgs false
set_option maxRecDepth 100000
set_option maxHeartbeats 4000000
section
theorem Dp:∀(n:Nat) (f:Nat->Nat),(∀i,i<n->f i<n)->(∀i j,i<n->j<n->f i=f j->i=j)->∀y,y<n->∃x,x<n/\f x=y
 | 0,f,_,_,y,hy=>absurd hy (by omega)
 | n+1,f,h1,h2,y,hy=>by
  have hn:=h1 n ac;by_cases hm:f n=n
  .by_cases hyn:y=n
   .exact⟨n,ac,ac⟩
   .obtain⟨x,hx,e⟩:=Dp n f (fun i hi=>by
     have h3:=h1 i ac;have h4:f i≠n:=fun e=>by
      have:=h2 i n ac ac ac;omega
     omega) (fun i j hi hj e=>h2 i j ac ac e) y ac
    exact⟨x,ac,e⟩
  .have aA:=Dp n (fun i=>if f i=n then f n else f i) (fun i hi=>by
     split
     .omega
     .have:=h1 i ac;omega) (fun i j hi hj e=>by
     split at e <;> split at e
     .exact h2 i j ac ac ac
     .have:=h2 n j ac ac e;omega
     .have:=h2 i n ac ac e;omega
     .exact h2 i j ac ac e)
   by_cases hy1:y=f n
   .exact⟨n,ac,hy1.symm⟩
   .by_cases hyn:y=n
    .obtain⟨x,hx,e⟩:=aA (f n) ac;split at e
     .rename_i h;exact⟨x,ac,ac⟩
     .have:=h2 x n ac ac e;omega
    .obtain⟨x,hx,e⟩:=aA y ac;split at e
     .omega
     .exact⟨x,ac,e⟩
structure Bj(n:Nat)(f:Nat->Nat):Prop where
 lt:∀i,i<n->f i<n
 off:∀i,n<=i->f i=i
 inj:∀i j,f i=f j->i=j
def ED:Nat->Nat:=fun i=>i
def An(f g:Nat->Nat):Nat->Nat:=fun i=>g (f i)
def A5(n:Nat)(f:Nat->Nat):Nat->Nat:=fun j=>if j<n then((List.range n).find? fun i=>f i==j).getD 0 else j
theorem Fz(n:Nat):Bj n ED:=⟨fun _ h=>h,fun _ _=>rfl,fun _ _ h=>h⟩
theorem Bj.of_inj{n:Nat}{f:Nat->Nat}(h1:∀i,i<n->f i<n)(h2:∀i,n<=i->f i=i)(h3:∀i j,i<n->j<n->f i=f j->i=j):Bj n f:=
 ⟨h1,h2,fun i j e=>by
  by_cases hi:i<n <;> by_cases hj:j<n
  .exact h3 i j hi hj e
  .have:=h1 i hi;have:=h2 j ac;omega
  .have:=h1 j hj;have:=h2 i ac;omega
  .have:=h2 i ac;have:=h2 j ac;omega⟩
theorem Bj.comp{n:Nat}{f g:Nat->Nat}(hf:Bj n f)(hg:Bj n g):Bj n (An f g):=
 ⟨fun i hi=>hg.lt _ (hf.lt i hi),fun i hi=>by show g (f i)=i;rw[hf.off i hi,hg.off i hi],fun i j e=>hf.inj i j (hg.inj _ _ e)⟩
theorem Bj.surj{n:Nat}{f:Nat->Nat}(hf:Bj n f){y:Nat}(hy:y<n):∃x,x<n/\f x=y:=
 Dp n f hf.lt (fun i j _ _ e=>hf.inj i j e) y hy
theorem Bj.lt_iff{n:Nat}{f:Nat->Nat}(hf:Bj n f)(i:Nat):f i<n↔i<n:=
 ⟨fun h=>by
  by_cases hi:i<n
  .exact hi
  .have:=hf.off i ac;omega,hf.lt i⟩
theorem Bj.inv_l{n:Nat}{f:Nat->Nat}(hf:Bj n f)(i:Nat):A5 n f (f i)=i:=by
 unfold A5;by_cases hi:i<n
 .rw[if_pos (hf.lt i hi)]
  cases h:(List.range n).find? fun k=>f k==f i with
  | none=>
   have:=List.find?_eq_none.1 h i (List.mem_range.2 hi);simp at this
  | some k=>
   have:=List.find?_some h;exact hf.inj k i (by simpa using this)
 .rw[if_neg (by rw[hf.off i ac];exact hi),hf.off i ac]
theorem Bj.inv_r{n:Nat}{f:Nat->Nat}(hf:Bj n f)(j:Nat):f (A5 n f j)=j:=by
 by_cases hj:j<n
 .obtain⟨x,hx,rfl⟩:=hf.surj hj;rw[hf.inv_l]
 .have h1:A5 n f j=j:=by unfold A5;rw[if_neg hj]
  rw[h1,hf.off j ac]
theorem Bj.inv{n:Nat}{f:Nat->Nat}(hf:Bj n f):Bj n (A5 n f):=
 ⟨fun i hi=>by
   have:=(hf.lt_iff (A5 n f i)).1 (by rw[hf.inv_r];exact hi);exact this,fun i hi=>by unfold A5;rw[if_neg ac],fun i j e=>by
   have:=congrArg f e
   rwa[hf.inv_r,hf.inv_r]at this⟩
theorem D9(f g h:Nat->Nat):An (An f g) h=An f (An g h):=rfl
theorem Bj.then_inv{n:Nat}{f:Nat->Nat}(hf:Bj n f):An f (A5 n f)=ED:=funext fun i=>hf.inv_l i
theorem Bj.inv_then{n:Nat}{f:Nat->Nat}(hf:Bj n f):An (A5 n f) f=ED:=funext fun i=>hf.inv_r i
theorem Bj.inv_unique{n:Nat}{f g:Nat->Nat}(hf:Bj n f)(h:An f g=ED):g=A5 n f:=by
 have:An (A5 n f) (An f g)=An (A5 n f) ED:=by rw[h]
 rw[<-D9,hf.inv_then]at this;exact this
theorem Mm(n:Nat):A5 n ED=ED:=((Fz n).inv_unique rfl).symm
theorem Bj.cancel{n:Nat}{f r:Nat->Nat}(hr:Bj n r):An (An f (A5 n r)) r=f:=by
 rw[D9,hr.inv_then];rfl
theorem Ml{n:Nat}{f g:Nat->Nat}(hf:Bj n f)(hg:Bj n g)(h:∀i,i<n->f i=g i):f=g:=
 funext fun i=>by
  by_cases hi:i<n
  .exact h i hi
  .rw[hf.off i ac,hg.off i ac]
def Jk(f:Nat->Nat):Nat->Nat->Nat
 | 0=>ED
 | k+1=>An (Jk f k) f
theorem LW(f:Nat->Nat)(a b:Nat):Jk f (a+b)=An (Jk f a) (Jk f b):=by
 induction b with
 | zero=>rfl
 | succ b ih=>show An (Jk f (a+b)) f=_;rw[ih];rfl
theorem JD{n:Nat}{f:Nat->Nat}(hf:Bj n f):∀k,Bj n (Jk f k)
 | 0=>Fz n
 | k+1=>(JD hf k).comp hf
theorem Ig{f:Nat->Nat}{i k:Nat}(h:Jk f k i=i):∀m,Jk f (k*m) i=i
 | 0=>rfl
 | m+1=>by
  rw[Nat.mul_succ,LW];show Jk f k (Jk f (k*m) i)=i
  rw[Ig h m,h]
theorem Bj.back{n:Nat}{f:Nat->Nat}(hf:Bj n f){i:Nat}(hi:i<n):∃k,1<=k/\k<=n/\Jk f k i=i:=by
 have aE:¬∀a b,a<n+1->b<n+1->Jk f a i=Jk f b i->a=b:=fun aA=>by
  obtain⟨x,hx,e⟩:=Dp (n+1) (fun a=>Jk f a i) (fun a _=>by have:=(JD hf a).lt i hi;omega) aA n ac;have:=(JD hf x).lt i hi;omega
 have aD:∃a b,a<b/\b<n+1/\Jk f a i=Jk f b i:=by
  apply Classical.byContradiction;intro aB;refine aE fun a b ha hb e=>?_;apply Classical.byContradiction;intro aC;rcases Nat.lt_or_gt_of_ne aC with h|h
  .exact aB ⟨a,b,h,hb,e⟩
  .exact aB ⟨b,a,h,ha,e.symm⟩
 obtain⟨a,b,aC,hb,e⟩:=aD;refine⟨b-a,ac,ac,?_⟩;have h1:Jk f b=An (Jk f (b-a)) (Jk f a):=by rw[<-LW];congr 1;omega
 rw[h1]at e;exact((JD hf a).inj _ _ e).symm
def NY:Nat->Nat
 | 0=>1
 | k+1=>(k+1)*NY k
theorem NW:∀k,1<=NY k
 | 0=>Nat.le_refl _
 | k+1=>Nat.mul_pos (by omega) (NW k)
theorem NX:∀n k,1<=k->k<=n->k ∣ NY n
 | 0,k,h1,h2=>by omega
 | n+1,k,h1,h2=>by
  by_cases h:k=n+1
  .subst h;exact Nat.dvd_mul_right _ _
  .exact Nat.dvd_trans (NX n k h1 (by omega)) (Nat.dvd_mul_left _ _)
theorem Bj.pw_fac{n:Nat}{f:Nat->Nat}(hf:Bj n f):Jk f (NY n)=ED:=by
 refine Ml (JD hf _) (Fz n) fun i hi=>?_;obtain⟨k,h1,h2,h3⟩:=hf.back hi;obtain⟨m,hm⟩:=NX n k h1 h2;rw[hm];exact Ig h3 m
inductive Gn(S:List (Nat->Nat)):(Nat->Nat)->Prop
 | one:Gn S ED
 | step {f g:Nat->Nat}:Gn S f->g∈S->Gn S (An f g)
structure W0(n:Nat)(H:(Nat->Nat)->Prop):Prop where
 one:H ED
 mul:∀f g,H f->H g->H (An f g)
 inv:∀f,H f->H (A5 n f)
 isP:∀f,H f->Bj n f
theorem Gn.mul{S:List (Nat->Nat)}{f g:Nat->Nat}(hf:Gn S f)(hg:Gn S g):Gn S (An f g):=by
 induction hg with
 | one=>exact hf
 | step _ h ih=>exact ih.step h
theorem Gn.of{S:List (Nat->Nat)}{g:Nat->Nat}(h:g∈S):Gn S g:=Gn.one.step h
theorem Gn.isP{n:Nat}{S:List (Nat->Nat)}(hS:∀s∈S,Bj n s){f:Nat->Nat}(h:Gn S f):Bj n f:=by
 induction h with
 | one=>exact Fz n
 | step _ h ih=>exact ih.comp (hS _ h)
theorem Gn.pw{S:List (Nat->Nat)}{f:Nat->Nat}(h:Gn S f):∀k,Gn S (Jk f k)
 | 0=>Gn.one
 | k+1=>(h.pw k).mul h
theorem Gn.inv{n:Nat}{S:List (Nat->Nat)}(hS:∀s∈S,Bj n s){f:Nat->Nat}(h:Gn S f):Gn S (A5 n f):=by
 have hf:=h.isP hS;have h1:An f (Jk f (NY n-1))=ED:=by
  have:Jk f (1+(NY n-1))=ED:=by
   rw[show 1+(NY n-1)=NY n from by have:=NW n;omega];exact hf.pw_fac
  rw[LW]at this;exact this
 rw[<-hf.inv_unique h1];exact h.pw _
theorem Gn.grp{n:Nat}{S:List (Nat->Nat)}(hS:∀s∈S,Bj n s):W0 n (Gn S):=
 ⟨.one,fun _ _=> .mul,fun _=> .inv hS,fun _ h=>Gn.isP hS h⟩
theorem Gn.mono{S T:List (Nat->Nat)}(hS:∀s∈S,Gn T s){f:Nat->Nat}(h:Gn S f):Gn T f:=by
 induction h with
 | one=>exact .one
 | step _ h ih=>exact ih.mul (hS _ h)
def A7(b:Nat)(f:Nat->Nat):Prop:=∀i,i<b->f i=i
theorem JN(b:Nat):A7 b ED:=fun _ _=>rfl
theorem A7.comp{b:Nat}{f g:Nat->Nat}(hf:A7 b f)(hg:A7 b g):A7 b (An f g):=fun i hi=>by
 show g (f i)=i;rw[hf i hi,hg i hi]
theorem A7.inv{n b:Nat}{f:Nat->Nat}(hP:Bj n f)(hf:A7 b f):A7 b (A5 n f):=fun i hi=>by
 have:=hP.inv_l i;rw[hf i hi]at this;exact this
theorem A7.all{n:Nat}{f:Nat->Nat}(hP:Bj n f)(hf:A7 n f):f=ED:=Ml hP (Fz n) hf
theorem A7.div{n b:Nat}{f r:Nat->Nat}(hr:Bj n r)(hf:A7 b f)(aA:A7 b r)(e:r b=f b):A7 (b+1) (An f (A5 n r)):=fun i hi=>by
 by_cases h:i=b
 .subst h;show A5 n r (f i)=i;rw[<-e];exact hr.inv_l i
 .exact A7.comp hf (A7.inv hr aA) i ac
end
section
structure Tw where
 R:Nat->Nat->Option (Nat->Nat)
 g:Nat->List (Nat->Nat)
def Dd(n:Nat)(R:Nat->Nat->Option (Nat->Nat)):Nat->Nat->(Nat->Nat)->(Nat->Nat) × Nat
 | 0,b,f=>(f,b)
 | k+1,b,f=>match R b (f b) with
  | none=>(f,b)
  | some r=>Dd n R k (b+1) (An f (A5 n r))
def Sf(n:Nat)(R:Nat->Nat->Option (Nat->Nat)):Nat->Nat->(Nat->Nat)->Prop
 | 0,_,_=>True
 | k+1,b,f=>∃r,R b (f b)=some r/\Sf n R k (b+1) (An f (A5 n r))
theorem KE(n:Nat)(R:Nat->Nat->Option (Nat->Nat)):∀k b f,b<=(Dd n R k b f).2/\(Dd n R k b f).2<=b+k
 | 0,b,f=>⟨Nat.le_refl _,Nat.le_refl _⟩
 | k+1,b,f=>by
  unfold Dd;split
  .exact⟨Nat.le_refl _,by dsimp only;omega⟩
  .have:=KE n R k (b+1) (An f (A5 n ‹_›));omega
theorem ON(n:Nat)(R:Nat->Nat->Option (Nat->Nat)):∀k b f,Sf n R k b f↔(Dd n R k b f).2=b+k
 | 0,b,f=>⟨fun _=>rfl,fun _=>trivial⟩
 | k+1,b,f=>by
  unfold Dd Sf
  cases h:R b (f b) with
  | none=>exact⟨fun ⟨r,h1,_⟩=>by exact(nomatch h1),fun h1=>by have h1:b=b+(k+1):=h1;omega⟩
  | some r=>
   dsimp only;rw[show b+(k+1)=b+1+k by omega,<-ON n R k (b+1)];exact⟨fun ⟨r',h1,h2⟩=>by injection h1 with h1;subst h1;exact h2,fun h=>⟨r,rfl,h⟩⟩
theorem Sf.mono{n:Nat}{R R':Nat->Nat->Option (Nat->Nat)}(hR:∀b x r,R b x=some r->R' b x=some r):∀ {k b f},Sf n R k b f->Sf n R' k b f
 | 0,_,_,_=>trivial
 | k+1,b,f,⟨r,h1,h2⟩=>⟨r,hR _ _ _ h1,h2.mono hR⟩
theorem Sf.congr{n c:Nat}{R R':Nat->Nat->Option (Nat->Nat)}(hR:∀b x,c<=b->R b x=R' b x):∀ {k b f},c<=b->Sf n R k b f->Sf n R' k b f
 | 0,_,_,_,_=>trivial
 | k+1,b,f,hb,⟨r,h1,h2⟩=>⟨r,by rw[<-hR b _ hb];exact h1,h2.congr hR (by omega)⟩
structure Cv(n:Nat)(t:Tw):Prop where
 rep:∀b x r,t.R b x=some r->b<n/\x<n/\Bj n r/\A7 b r/\r b=x
 one:∀b,b<n->t.R b b=some ED
 gen:∀b h,h∈t.g b->Bj n h/\A7 b h
theorem SF{n:Nat}{t:Tw}(hG:Cv n t):∀k b,b+k<=n->Sf n t.R k b ED
 | 0,_,_=>trivial
 | k+1,b,h=>⟨ED,hG.one b (by omega),by rw[Mm];exact SF hG k (b+1) (by omega)⟩
def EO(n:Nat)(R:Nat->Nat->Option (Nat->Nat))(b:Nat)(q:Nat->Nat):Prop:=
 ∃r,R b (q b)=some r/\Sf n R (n-(b+1)) (b+1) (An q (A5 n r))
theorem EO.mono{n b:Nat}{R R':Nat->Nat->Option (Nat->Nat)}(hR:∀b x r,R b x=some r->R' b x=some r){q:Nat->Nat}(h:EO n R b q):EO n R' b q:=by
 obtain⟨r,h1,h2⟩:=h;exact⟨r,hR _ _ _ h1,h2.mono hR⟩
theorem EO.congr{n b:Nat}{R R':Nat->Nat->Option (Nat->Nat)}(hR:∀c x,b<=c->R c x=R' c x){q:Nat->Nat}(h:EO n R b q):EO n R' b q:=by
 obtain⟨r,h1,h2⟩:=h;exact⟨r,by rw[<-hR b _ (Nat.le_refl _)];exact h1,h2.congr hR ac⟩
structure Dc(n:Nat)(t:Tw)(c:Nat):Prop where
 done:∀x r,t.R c x=some r->∀h∈t.g c,EO n t.R c (An r h)
 rep:∀c' x r,c<=c'->t.R c' x=some r->Gn (t.g c) r
 gen:∀c' h,c<=c'->h∈t.g c'->Gn (t.g c) h
theorem Dc.congr{n c:Nat}{t t':Tw}(h:Dc n t c)(hR:∀b x,c<=b->t.R b x=t'.R b x)(hg:∀b,c<=b->t.g b=t'.g b):Dc n t' c:=
 ⟨fun x r hr k hk=>(h.done x r (by rw[hR _ _ (Nat.le_refl _)];exact hr) k (by rw[hg _ (Nat.le_refl _)];exact hk)).congr hR,
 fun c' x r hc hr=>by rw[<-hg _ (Nat.le_refl _)];exact h.rep c' x r hc (by rw[hR _ _ hc];exact hr),
 fun c' k hc hk=>by rw[<-hg _ (Nat.le_refl _)];exact h.gen c' k hc (by rw[hg _ hc];exact hk)⟩
theorem SE{n:Nat}{t:Tw}{H:(Nat->Nat)->Prop}(hG:Cv n t)(hH:W0 n H):∀k b f,b+k=n->(∀c x r,b<=c->t.R c x=some r->H r)->Bj n f->A7 b f->Sf n t.R k b f->H f
 | 0,b,f,hb,_,hP,hF,_=>by
  have:b=n:=ac;subst this;rw[hF.all hP];exact hH.one
 | k+1,b,f,hb,hr,hP,hF,⟨r,h1,h2⟩=>by
  obtain⟨_,_,h3,h4,h5⟩:=hG.rep _ _ _ h1;have:=SE hG hH k (b+1) (An f (A5 n r)) ac (fun c x r' hc=>hr c x r' ac) (hP.comp h3.inv) (hF.div h3 h4 h5) h2;have h6:=hH.mul _ _ this (hr _ _ _ (Nat.le_refl _) h1)
  rwa[h3.cancel]at h6
theorem SG{n:Nat}{t:Tw}(hG:Cv n t):∀k b,b+(k+1)=n->(∀c,b<=c->c<n->Dc n t c)->∀f,Bj n f->A7 b f->(Sf n t.R (k+1) b f↔Gn (t.g b) f)
 | k,b,hb,hC,f,hP,hF=>by
  have aG:W0 n (Gn (t.g b)):=Gn.grp fun s hs=>(hG.gen _ _ hs).1;refine⟨fun h=>SE hG aG (k+1) b f hb (fun c x r hc hr=>(hC b (Nat.le_refl _) ac).rep c x r hc hr) hP hF h,fun h=>?_⟩;clear hF hP
  induction h with
  | one=>exact SF hG _ _ ac
  | @step f s hf hs ih=>
   have aD:=hf.isP fun s hs=>(hG.gen _ _ hs).1;have aE:A7 b f:=by
    clear ih
    induction hf with
    | one=>exact JN _
    | step hf' hs' ih'=>exact(ih' (hf'.isP fun s hs=>(hG.gen _ _ hs).1)).comp (hG.gen _ _ hs').2
   obtain⟨r,h1,h2⟩:=ih;obtain⟨_,_,h3,h4,h5⟩:=hG.rep _ _ _ h1;obtain⟨r',h6,h7⟩:=(hC b (Nat.le_refl _) ac).done _ _ h1 s hs;obtain⟨_,_,h8,h9,aH⟩:=hG.rep _ _ _ h6;have aA:=(hG.gen _ _ hs);have e1:(An r s) b=(An f s) b:=by show s (r b)=s (f b);rw[h5]
   refine⟨r',by rw[<-e1];exact h6,?_⟩;have e2:An (An f s) (A5 n r')=An (An f (A5 n r)) (An (An r s) (A5 n r')):=by
    conv=>lhs;rw[<-h3.cancel (f:=f)]
    rfl
   rw[e2];have hk:n-(b+1)=k:=ac;rw[hk]at h7;have hA:=aE.div h3 h4 h5;have hB:A7 (b+1) (An (An r s) (A5 n r')):=(h4.comp aA.2).div h8 h9 (by rw[aH]);have aC:=aD.comp h3.inv;have aB:=(h3.comp aA.1).comp h8.inv
   cases k with
   | zero=>trivial
   | succ k=>
    have IH:=SG hG k (b+1) ac fun c hc aF=>hC c ac aF;exact(IH _ (aC.comp aB) (hA.comp hB)).2 (((IH _ aC hA).1 h2).mul ((IH _ aB hB).1 h7))
def Ix(H:(Nat->Nat)->Prop)(b:Nat)(t:Tw):Prop:=(∀c x r,b<=c->t.R c x=some r->H r)/\∀c h,b<=c->h∈t.g c->H h
theorem Ix.up{H:(Nat->Nat)->Prop}{b c:Nat}{t:Tw}(h:Ix H b t)(hc:b<=c):Ix H c t:=⟨fun c' x r h1=>h.1 c' x r ac,fun c' x h1=>h.2 c' x ac⟩
def GV(b:Nat)(t t':Tw):Prop:=∀c,c<b->(∀x,t'.R c x=t.R c x)/\t'.g c=t.g c
theorem GV.refl(b:Nat)(t:Tw):GV b t t:=fun _ _=>⟨fun _=>rfl,rfl⟩
theorem GV.trans{b:Nat}{t u v:Tw}(h:GV b t u)(k:GV b u v):GV b t v:=fun c hc=>⟨fun x=>by rw[(k c hc).1,(h c hc).1],by rw[(k c hc).2,(h c hc).2]⟩
theorem GV.down{b c:Nat}{t u:Tw}(h:GV b t u)(hc:c<=b):GV c t u:=fun d hd=>h d ac
def PT(t t':Tw):Prop:=∀b x r,t.R b x=some r->t'.R b x=some r
theorem PT.trans{t u v:Tw}(h:PT t u)(k:PT u v):PT t v:=fun b x r hr=>k b x r (h b x r hr)
structure Ov(n b:Nat)(p:Nat->Nat)(t t':Tw):Prop where
 good:Cv n t'
 low:GV b t t'
 le:PT t t'
 comp:∀c,b<=c->c<n->Dc n t' c
 mem:Sf n t'.R (n-b) b p
 snd:∀H,W0 n H->Ix H b t->H p->Ix H b t'
structure UC(n b:Nat)(q:Nat->Nat)(t t':Tw):Prop where
 good:Cv n t'
 low:GV b t t'
 le:PT t t'
 gb:t'.g b=t.g b
 comp:∀c,b+1<=c->c<n->Dc n t' c
 done:EO n t'.R b q
 new:∀x r,t.R b x=none->t'.R b x=some r->∀h∈t.g b,EO n t'.R b (An r h)
 snd:∀H,W0 n H->Ix H b t->H q->Ix H b t'
theorem Ov.same{n b:Nat}{p:Nat->Nat}{t:Tw}(hG:Cv n t)(hC:∀c,b<=c->c<n->Dc n t c)(h:Sf n t.R (n-b) b p):Ov n b p t t:=
 ⟨hG,GV.refl _ _,fun _ _ _ h=>h,hC,h,fun _ _ h _=>h⟩
theorem Ov.vis{n b:Nat}{q r:Nat->Nat}{t t':Tw}(hb:b<n)(hG:Cv n t)(hr:t.R b (q b)=some r)(h:Ov n (b+1) (An q (A5 n r)) t t'):UC n b q t t':=
 ⟨h.good,h.low.down ac,h.le,(h.low b ac).2,h.comp,⟨r,h.le _ _ _ hr,h.mem⟩,fun x r' h1 h2=>by
  rw[(h.low b ac).1 x,h1]at h2;exact(nomatch h2),fun H hH hS hq=>by
  have h1:=h.snd H hH (hS.up ac) (hH.mul _ _ hq (hH.inv _ (hS.1 _ _ _ (Nat.le_refl _) hr)));refine⟨fun c x r' hc aA=>?_,fun c k hc hk=>?_⟩
  .by_cases e:c=b
   .subst e;rw[(h.low c ac).1 x]at aA;exact hS.1 c x r' (Nat.le_refl _) aA
   .exact h1.1 c x r' ac aA
  .by_cases e:c=b
   .subst e;rw[(h.low c ac).2]at hk;exact hS.2 c k (Nat.le_refl _) hk
   .exact h1.2 c k ac hk⟩
def Kg(t:Tw)(b x:Nat)(q:Nat->Nat):Tw:=⟨fun c y=>if c=b/\y=x then some q else t.R c y,t.g⟩
def PF(t:Tw)(b:Nat)(p:Nat->Nat):Tw:=⟨t.R,fun c=>if c=b then t.g c ++ [p] else t.g c⟩
structure MQ(n b:Nat)(q:Nat->Nat)(t t':Tw)(k:Nat):Prop where
 good:Cv n t'
 low:GV b t t'
 le:PT t t'
 gb:t'.g b=t.g b
 comp:∀c,b+1<=c->c<n->Dc n t' c
 rep:t'.R b (q b)=some q
 done:∀j h,j<k->(t.g b)[j]?=some h->EO n t'.R b (An q h)
 new:∀x r,x≠q b->t.R b x=none->t'.R b x=some r->∀h∈t.g b,EO n t'.R b (An r h)
 snd:∀H,W0 n H->Ix H b t->H q->Ix H b t'
theorem MQ.start{n b:Nat}{q:Nat->Nat}{t:Tw}(hb:b<n)(hG:Cv n t)(hC:∀c,b+1<=c->c<n->Dc n t c)(hP:Bj n q)(hF:A7 b q)(hr:t.R b (q b)=none):MQ n b q t (Kg t b (q b) q) 0:=by
 have aA:PT t (Kg t b (q b) q):=fun c x r h=>by
  show(if c=b/\x=q b then some q else t.R c x)=some r
  split
  .rename_i e;rw[e.1,e.2,hr]at h;cases h
  .exact h
 refine⟨⟨fun c x r h=>?_,fun c hc=>aA _ _ _ (hG.one c hc),hG.gen⟩,fun c hc=>⟨fun x=>?_,rfl⟩,aA,rfl,fun c hc aB=>(hC c hc aB).congr (fun d x hd=>?_) (fun _ _=>rfl),?_,fun j h hj=>ac,fun x r hx h1 h2=>?_,fun H hH hS hq=>⟨fun c x r hc h=>?_,hS.2⟩⟩
 .have h:(if c=b/\x=q b then some q else t.R c x)=some r:=h;split at h
  .rename_i e;injection h with h;subst h;rw[e.1,e.2];exact⟨hb,hP.lt _ hb,hP,hF,rfl⟩
  .exact hG.rep c x r h
 .show(if c=b/\x=q b then some q else t.R c x)=t.R c x
  rw[if_neg ac]
 .show t.R d x=(if d=b/\x=q b then some q else t.R d x)
  rw[if_neg ac]
 .show(if b=b/\q b=q b then some q else t.R b (q b))=some q
  rw[if_pos ⟨rfl,rfl⟩]
 .have h2:(if b=b/\x=q b then some q else t.R b x)=some r:=h2;rw[if_neg (fun e=>hx e.2),h1]at h2;cases h2
 .have h:(if c=b/\x=q b then some q else t.R c x)=some r:=h;split at h
  .injection h with h;subst h;exact hq
  .exact hS.1 c x r hc h
theorem MQ.step{n b k:Nat}{q h:Nat->Nat}{t u v:Tw}(hl:MQ n b q t u k)(hk:(t.g b)[k]?=some h)(hv:UC n b (An q h) u v):MQ n b q t v (k+1):=
 ⟨hv.good,hl.low.trans hv.low,hl.le.trans hv.le,by rw[hv.gb,hl.gb],hv.comp,hv.le _ _ _ hl.rep,fun j s hj hs=>by
  by_cases e:j=k
  .subst e;rw[hk]at hs;injection hs with hs;subst hs;exact hv.done
  .exact(hl.done j s ac hs).mono hv.le,fun x r hx h1 h2 s hs=>by
  cases hu:u.R b x with
  | none=>exact hv.new x r hu h2 s (by rw[hl.gb];exact hs)
  | some r'=>
   have h3:=hv.le _ _ _ hu;rw[h2]at h3;injection h3 with h3;subst h3;exact(hl.new x r hx h1 hu s hs).mono hv.le,fun H hH hS hq=>by
  have h1:=hl.snd H hH hS hq;exact hv.snd H hH h1 (hH.mul _ _ hq (h1.2 b h (Nat.le_refl _) (by rw[hl.gb];exact List.mem_of_getElem? hk)))⟩
theorem MQ.fin{n b k:Nat}{q:Nat->Nat}{t u:Tw}(hb:b<n)(hP:Bj n q)(hl:MQ n b q t u k)(hk:(t.g b).length<=k):UC n b q t u:=
 ⟨hl.good,hl.low,hl.le,hl.gb,hl.comp,⟨q,hl.rep,by rw[hP.then_inv];exact SF hl.good _ _ ac⟩,fun x r h1 h2 s hs=>by
  by_cases e:x=q b
  .subst e;rw[hl.rep]at h2;injection h2 with h2;subst h2;obtain⟨j,hj,e⟩:=List.getElem_of_mem hs;exact hl.done j s ac au
  .exact hl.new x r e h1 h2 s hs,hl.snd⟩
structure Iy(n b:Nat)(p:Nat->Nat)(t t':Tw)(x:Nat):Prop where
 good:Cv n t'
 low:GV b t t'
 le:PT t t'
 gb:t'.g b=t.g b ++ [p]
 comp:∀c,b+1<=c->c<n->Dc n t' c
 old:∀y r,y<x->t.R b y=some r->EO n t'.R b (An r p)
 new:∀y r,t.R b y=none->t'.R b y=some r->∀h∈t'.g b,EO n t'.R b (An r h)
 snd:∀H,W0 n H->Ix H b t->H p->Ix H b t'
theorem Iy.start{n b:Nat}{p:Nat->Nat}{t:Tw}(hG:Cv n t)(hC:∀c,b+1<=c->c<n->Dc n t c)(hP:Bj n p)(hF:A7 b p):Iy n b p t (PF t b p) 0:=by
 refine⟨⟨hG.rep,hG.one,fun c h hh=>?_⟩,fun c hc=>⟨fun _=>rfl,?_⟩,fun _ _ _ h=>h,?_,fun c hc aA=>(hC c hc aA).congr (fun _ _ _=>rfl) (fun d hd=>?_),fun y r hy=>ac,fun y r h1 h2=>?_,fun H hH hS hp=>⟨hS.1,fun c h hc hh=>?_⟩⟩
 .have h2:h∈(if c=b then t.g c ++ [p] else t.g c):=hh;by_cases e:c=b
  .subst e;rw[if_pos rfl]at h2;rcases List.mem_append.1 h2 with h1|h1
   .exact hG.gen c h h1
   .rw[List.mem_singleton.1 h1];exact⟨hP,hF⟩
  .rw[if_neg e]at h2;exact hG.gen c h h2
 .show(if c=b then t.g c ++ [p] else t.g c)=t.g c
  rw[if_neg ac]
 .show(if b=b then t.g b ++ [p] else t.g b)=_
  rw[if_pos rfl]
 .show t.g d=(if d=b then t.g d ++ [p] else t.g d)
  rw[if_neg ac]
 .have h2:t.R b y=some r:=h2;rw[h1]at h2;cases h2
 .have hh:h∈(if c=b then t.g c ++ [p] else t.g c):=hh;split at hh
  .rcases List.mem_append.1 hh with h1|h1
   .exact hS.2 c h hc h1
   .rw[List.mem_singleton.1 h1];exact hp
  .exact hS.2 c h hc hh
theorem Iy.skip{n b x:Nat}{p:Nat->Nat}{t u:Tw}(hl:Iy n b p t u x)(h:t.R b x=none):Iy n b p t u (x+1):=
 ⟨hl.good,hl.low,hl.le,hl.gb,hl.comp,fun y r hy hr=>by
  by_cases e:y=x
  .subst e;rw[h]at hr;cases hr
  .exact hl.old y r ac hr,hl.new,hl.snd⟩
theorem Iy.step{n b x:Nat}{p r:Nat->Nat}{t u v:Tw}(hl:Iy n b p t u x)(hr:t.R b x=some r)(hv:UC n b (An r p) u v):Iy n b p t v (x+1):=
 ⟨hv.good,hl.low.trans hv.low,hl.le.trans hv.le,by rw[hv.gb,hl.gb],hv.comp,fun y r' hy aA=>by
  by_cases e:y=x
  .subst e;rw[hr]at aA;injection aA with aA;subst aA;exact hv.done
  .exact(hl.old y r' ac aA).mono hv.le,fun y r' h1 h2 s hs=>by
  rw[hv.gb]at hs
  cases hu:u.R b y with
  | none=>exact hv.new y r' hu h2 s hs
  | some r''=>
   have h3:=hv.le _ _ _ hu;rw[h2]at h3;injection h3 with h3;subst h3;exact(hl.new y r' h1 hu s hs).mono hv.le,fun H hH hS hp=>by
  have h1:=hl.snd H hH hS hp;exact hv.snd H hH h1 (hH.mul _ _ (h1.1 _ _ _ (Nat.le_refl _) (hl.le _ _ _ hr)) hp)⟩
theorem Iy.fin{n b x:Nat}{p:Nat->Nat}{t u:Tw}(hb:b<n)(hG:Cv n t)(hC:∀c,b<=c->c<n->Dc n t c)(hP:Bj n p)(hF:A7 b p)(hl:Iy n b p t u x)(hx:n<=x):Ov n b p t u:=by
 have aE:W0 n (Gn (u.g b)):=Gn.grp fun s hs=>(hl.good.gen _ _ hs).1;have hp:Gn (u.g b) p:=Gn.of (by rw[hl.gb];simp);have aA:∀f,Gn (t.g b) f->Gn (u.g b) f:=fun f hf=>hf.mono fun s hs=>Gn.of (by rw[hl.gb];exact List.mem_append_left _ hs);have hS:=hl.snd _ aE ⟨fun c x r hc hr=>aA _ ((hC b (Nat.le_refl _) hb).rep c x r hc hr),fun c k hc hk=>aA _ ((hC b (Nat.le_refl _) hb).gen c k hc hk)⟩ hp;have aD:Dc n u b:=⟨fun y r hr s hs=>by
   cases h:t.R b y with
   | none=>exact hl.new y r h hr s hs
   | some r'=>
    have h3:=hl.le _ _ _ h;rw[hr]at h3;injection h3 with h3;subst h3;rw[hl.gb]at hs;rcases List.mem_append.1 hs with h1|h1
    .exact((hC b (Nat.le_refl _) hb).done y r h s h1).mono hl.le
    .rw[List.mem_singleton.1 h1];exact hl.old y r (by have:=(hG.rep _ _ _ h).2.1;omega) h,hS.1,hS.2⟩
 have aB:∀c,b<=c->c<n->Dc n u c:=fun c hc aC=>by
  by_cases e:c=b
  .subst e;exact aD
  .exact hl.comp c ac aC
 refine⟨hl.good,hl.low,hl.le,aB,?_,hl.snd⟩;obtain⟨k,hk⟩:∃k,n-b=k+1:=⟨n-b-1,ac⟩;rw[hk];exact(SG hl.good k b ac aB p hP hF).2 hp
def Ma(n:Nat):Tw:=⟨fun b x=>if b<n/\x=b then some ED else none,fun _=> []⟩
theorem RC(n:Nat):Cv n (Ma n):=
 ⟨fun b x r h=>by
  have h:(if b<n/\x=b then some ED else none)=some r:=h;split at h
  .rename_i e;injection h with h;subst h;exact⟨e.1,ac,Fz n,JN _,e.2.symm⟩
  .exact(nomatch h),fun b hb=>by
  show(if b<n/\b=b then some ED else none)=some ED
  rw[if_pos ⟨hb,rfl⟩],fun _ _ h=>by cases h⟩
theorem RD(n c:Nat):Dc n (Ma n) c:=
 ⟨fun _ _ _ _ h=>by (first|cases h|exact absurd h (List.not_mem_nil)),fun c' x r _ h=>by
  have h:(if c'<n/\x=c' then some ED else none)=some r:=h;split at h
  .injection h with h;subst h;exact .one
  .exact(nomatch h),fun _ _ _ h=>by cases h⟩
structure GW(n:Nat)(S:List (Nat->Nat))(t:Tw)(k:Nat):Prop where
 good:Cv n t
 comp:∀c,c<n->Dc n t c
 mem:∀j s,j<k->S[j]?=some s->Sf n t.R n 0 s
 snd:Ix (Gn S) 0 t
theorem GW.start{n:Nat}{S:List (Nat->Nat)}:GW n S (Ma n) 0:=
 ⟨RC n,fun c _=>RD n c,fun j s h=>ac,fun c x r _ h=>by
  have h:(if c<n/\x=c then some ED else none)=some r:=h;split at h
  .injection h with h;subst h;exact .one
  .exact(nomatch h),fun _ _ _ h=>by cases h⟩
theorem GW.step{n k:Nat}{S:List (Nat->Nat)}{t t':Tw}{s:Nat->Nat}(hS:∀s∈S,Bj n s)(h:GW n S t k)(hs:S[k]?=some s)(hi:Ov n 0 s t t'):GW n S t' (k+1):=
 ⟨hi.good,fun c hc=>hi.comp c ac hc,fun j s' hj aA=>by
  by_cases e:j=k
  .subst e;rw[hs]at aA;injection aA with aA;subst aA;exact hi.mem
  .exact(h.mem j s' ac aA).mono hi.le,hi.snd _ (Gn.grp hS) h.snd (Gn.of (List.mem_of_getElem? hs))⟩
theorem YE{n:Nat}{t:Tw}(hG:Cv n t){f:Nat->Nat}:∀k b,b+k=n->A7 b f->(Sf n t.R n 0 f↔Sf n t.R k b f):=by
 intro k b
 induction b generalizing k with
 | zero=>intro h _;rw[show k=n by omega]
 | succ b ih=>
  intro h hF;rw[ih (k+1) ac (fun i hi=>hF i ac)];have hb:f b=b:=hF b ac;have h1:=hG.one b ac;constructor
  .rintro⟨r,h2,h3⟩;rw[hb,h1]at h2;injection h2 with h2;subst h2;rw[Mm]at h3;exact h3
  .intro h3;exact⟨ED,by rw[hb];exact h1,by rw[Mm];exact h3⟩
theorem GW.grp{n k:Nat}{S:List (Nat->Nat)}{t:Tw}(hn:1<=n)(hS:∀s∈S,Bj n s)(h:GW n S t k)(hk:S.length<=k){b:Nat}(hb:b<=n){f:Nat->Nat}(hP:Bj n f)(hF:A7 b f):Sf n t.R (n-b) b f↔Gn S f:=by
 rw[<-YE h.good (n-b) b ac hF];obtain⟨m,rfl⟩:∃m,n=m+1:=⟨n-1,ac⟩;have aA:=SG h.good m 0 ac (fun c _ hc=>h.comp c hc);constructor
 .intro h1;exact SE h.good (Gn.grp hS) (m+1) 0 f ac h.snd.1 hP (fun i hi=>ac) h1
 .intro h1;refine(aA f hP (fun i hi=>ac)).2 (h1.mono fun s hs=>?_);obtain⟨j,hj,e⟩:=List.getElem_of_mem hs;exact(aA s (hS s hs) (fun i hi=>ac)).1 (h.mem j s ac au)
theorem GW.orb{n k:Nat}{S:List (Nat->Nat)}{t:Tw}(hn:1<=n)(hS:∀s∈S,Bj n s)(h:GW n S t k)(hk:S.length<=k){b:Nat}(hb:b<n)(x:Nat):(∃r,t.R b x=some r)↔∃f,Gn S f/\A7 b f/\f b=x:=by
 constructor
 .rintro⟨r,hr⟩;obtain⟨_,_,h1,h2,h3⟩:=h.good.rep _ _ _ hr;exact⟨r,h.snd.1 _ _ _ (Nat.zero_le _) hr,h2,h3⟩
 .rintro⟨f,hf,hF,rfl⟩;have:=(h.grp hn hS hk ac (hf.isP hS) hF).2 hf;rw[show n-b=n-(b+1)+1 by omega]at this;obtain⟨r,hr,_⟩:=this;exact⟨r,hr⟩
end
section
open Go.RowKit
theorem Wp{p m:Int}{ml:List Int}(h:¬F9 p m ml):BN p m ml=1:=by
 have h1:BN p m ml≠0:=fun e=>h ((BH p m ml).1 e);unfold BN at h1 ⊢;split
 .rename_i h2;rw[if_pos h2]at h1;exact absurd rfl h1
 .rfl
theorem PW(w:World)(p m:Int)(ml:List Int)(mv:Value)(aD:Ak w mv ml):
  Calls Tryz.prog 147 #[.agg #[.int .i64 p,.int .i64 m,mv]] w fun r w'=>r= .returned (.int .i64 (BN p m ml))/\Ex w w':=by
 obtain⟨a0,a1,a2,ea,-⟩:=AO w p m mv;have HE:=Aa ea;have aE:=Aa (aD.ex ea);have aC:=Aa (fun w' (h:Ak w' mv ml)=>KL p m ml mv w' h);have aA:=Hg p m;obtain⟨R,hR⟩:=nA (BN p m ml);rw[hR];by_cases hs:Ja p m ml=true
 .obtain⟨pn,mn,rfl,rfl,hf,aH,ho⟩:=LF hs;rw[ho]at aA;rw[hs]at aC;have aJ:=Aa aA;have aK:=Aa (fun w' (h:Ak w' mv ml)=>Gc pn mn ml mv w' hf h);obtain⟨B,hB⟩:∃B:Bool,(B=true↔R=1)/\(B=false↔R=0)/\∀w' v,MX pn mn ml w' v->∃ga gn gc,v= .slice ga gn gc/\ga.isNone=B:=by
   by_cases hF:Kd pn mn (lw ml)
   .have h0:=(BH _ _ _).2 ⟨pn,mn,rfl,rfl,hf,aH,hF⟩;rw[hR]at h0;subst h0;refine⟨false,ag,ag,fun w' v h=>?_⟩;rcases h with⟨x,x1,x2,hgx,hgv⟩|⟨hno,rfl⟩
    .obtain⟨ga,gc,rfl,g1,g2,g3⟩:=hgv.open;obtain⟨gb,gof,rfl,g4⟩:=g3 (by rw[Aj];have:=BK hf.p2 hf.m1;omega);exact⟨_,_,_,rfl,rfl⟩
    .exact absurd hF hno
   .have h0:BN pn mn ml=1:=Wp fun ⟨a,b,e1,e2,_,_,h⟩=>by
     have aO:pn=a:=ac;have aN:mn=b:=ac;subst aO;subst aN;exact hF h
    rw[hR]at h0;subst h0;refine⟨true,ag,ag,fun w' v h=>?_⟩;rcases h with⟨x,x1,x2,hgx,hgv⟩|⟨hno,rfl⟩
    .exact absurd ⟨x,x1,x2,hgx⟩ hF
    .exact⟨_,_,_,rfl,rfl⟩
  have HB:=Aa hB;have hE:=fun w (a:Option Addr) (l c:Nat)=>AF (P:=Tryz.prog) w 22 3 a l c Tryz.underlying22;clear aA hf aH ho hs hB hR aD ea;obtain⟨q,aG⟩:=nA (pn^mn);rw[aG]at aJ aK;clear aG;go_enter Tryz.func147,Tryz.ntmps147
  go_wp2_with fail
  obtain⟨xb,aB⟩:=nA w.heap.size;rw[aB]at a0 a1 a2
  try simp only[aB]
  clear aB;generalize w.alloc (.cells #[.int .i64 pn,.int .i64 mn,mv] 24)=w1 at *;have G0:Ex w1 w1.drew:=(Ex.refl w1).drew;have A0:=Aa a0;have A1:=Aa a1;have A2:=Aa a2
  first|go_region_with ((first
        | (go_at_call 111;(with_reducible refine(aC.o _ (aE.o.ex G0)).mono ?_);rintro e w2⟨rfl,h2⟩;have X2:=G0.trans h2;have b0:=X2.cell A0.o;have b1:=X2.cell A1.o;have b2:=X2.cell A2.o;clear h2)
        | (go_at_call 112;(with_reducible refine(aJ.o _).mono ?_);rintro e w3⟨rfl,rfl⟩)
        | (go_at_call 113;(with_reducible refine(aK.o _ (aE.o.ex X2)).mono ?_);rintro e w3⟨gv,rfl,aI,aF⟩;have X3:=X2.trans aF;obtain⟨ga,gn,gc,rfl,aL⟩:=HB.o.2.2 _ _ aI;have aM:=fun w=>hE w ga gn gc;rw[aL]at aM;clear aI aF)))|fail
  all_goals
   cases B with
   | true=>
    obtain rfl:=HB.o.1.1 rfl;go_wp2_with fail
    go_ret;exact⟨rfl,HE.o.trans X3⟩
   | false=>
    obtain rfl:=HB.o.2.1.1 rfl;go_wp2_with fail
    go_ret;exact⟨rfl,HE.o.trans X3⟩
 .have hs:Ja p m ml=false:=by simpa using hs
  rw[hs]at aC;have hr:=QU (p:=p) (m:=m) hs;rw[hR]at hr;subst hr;clear hs aA hR aD ea;go_enter Tryz.func147,Tryz.ntmps147
  go_wp2_with fail
  obtain⟨xb,aB⟩:=nA w.heap.size;rw[aB]at a0 a1 a2
  try simp only[aB]
  clear aB;generalize w.alloc (.cells #[.int .i64 p,.int .i64 m,mv] 24)=w1 at *;have G0:Ex w1 w1.drew:=(Ex.refl w1).drew
  first|go_region_with ((go_at_call 111;(with_reducible refine(aC.o _ (aE.o.ex G0)).mono ?_);rintro e w2⟨rfl,h2⟩;have X2:=G0.trans h2;clear h2))|fail
  all_goals
   go_wp2_with fail
   go_ret;exact⟨rfl,HE.o.trans X2⟩
end
section
open Go.RowKit
theorem I8(w:World)(p m:Int)(ml:List Int)(mv:Value)(aB:Ak w mv ml)(aA:Int)(rows:List (List Int))(v:Value)(hv:B6 w v rows)(h0:Du p m ml aA rows=0->1<=aA):
  Calls Tryz.prog 149 #[.agg #[.int .i64 p,.int .i64 m,mv],.agg #[.int .i64 aA,v]] w fun r w'=>(∃e:Int,r= .returned (.int .i64 e)/\R6 p m ml aA rows e)/\Ex w w':=by
 obtain⟨g0,g1,g2,e0,aD⟩:=AO w p m mv;have aC:=Aa (fun (w':World) (h:Ex w w')=>Kf w' p m ml mv (aB.ex h) aA rows v (hv.ex h) h0);obtain⟨za,zc,rfl,-,z2,-⟩:=hv.open;unfold maxLen at z2;obtain⟨ma,mc,rfl,-,m2,-⟩:=aB.open;unfold maxLen at m2;clear aB hv h0;go_enter Tryz.func149,Tryz.ntmps149
 go_wp2_with fail
 refine(aC.o _ (e0.trans ((Ex.refl _).alloc _))).mono ?_;rintro e w2⟨⟨g,c,a1,a2,n1,k1,n2,k2,e',rfl,hs⟩,hx⟩;have HX:=Aa ((e0.trans ((Ex.refl _).alloc (.cells #[.int .i64 aA,.slice za rows.length zc] 137))).trans hx);clear hx g0 g1 g2 e0 aD aC;go_wp2_with fail
 go_ret;exact⟨⟨e',rfl,hs⟩,HX.o.alloc _⟩
def Cm(p m:Int)(ml:List Int)(n:Int)(rows:List (List Int))(e:Int):Prop:=
 (BN p m ml≠0/\e=1)∨(BN p m ml=0/\GK n≠0/\e=GK n)∨(BN p m ml=0/\GK n=0/\R6 p m ml n rows e)
theorem Dm(w:World)(p m:Int)(ml:List Int)(mv:Value)(aE:Ak w mv ml)(n:Int)(rows:List (List Int))(v:Value)(hv:B6 w v rows):
  Calls Tryz.prog 90 #[.agg #[.int .i64 p,.int .i64 m,mv,.int .i64 n,v]] w fun r w'=>(∃e:Int,r= .returned (.int .i64 e)/\Cm p m ml n rows e)/\Ex w w':=by
 obtain⟨a0,a1,a2,a3,a4,ea⟩:=Gu w p m mv n v;have aH:=Aa (fun (w':World) (h:Ex w w')=>PW w' p m ml mv (aE.ex h));have aM:=Aa (fun (w':World) (h:Ex w w')=>Wb w' p m mv n rows v (hv.ex h));have aJ:=Aa (fun (h1:GK n=0) (w':World) (h:Ex w w')=>I8 w' p m ml mv (aE.ex h) n rows v (hv.ex h) fun _=>by
  unfold GK at h1;split at h1
  .cases h1
  .omega)
 have aK:=Aa (fun (w':World)=>JB w' n);obtain⟨za,zc,rfl,-,z2,-⟩:=hv.open;unfold maxLen at z2;obtain⟨ma,mc,rfl,-,m2,-⟩:=aE.open;unfold maxLen at m2;have HE:=Aa ea;obtain⟨F,hF⟩:=nA (BN p m ml);obtain⟨L,hL⟩:=nA (GK n);have aI:=Aa (show ∀e,((F≠0/\e=1)∨(F=0/\L≠0/\e=L)∨(F=0/\L=0/\R6 p m ml n rows e))->Cm p m ml n rows e from fun e h=>by unfold Cm;rw[hF,hL];exact h);rw[hF]at aH;rw[hL]at aJ aK;clear aE hv ea hF hL;go_enter Tryz.func90,Tryz.ntmps90
 go_wp2_with fail
 obtain⟨xb,aF⟩:=nA w.heap.size;rw[aF]at a0 a1 a2 a3 a4
 try simp only[aF]
 clear aF;generalize w.alloc (.cells #[.int .i64 p,.int .i64 m,.slice ma ml.length mc,.int .i64 n,.slice za rows.length zc] 39)=w1 at *;refine(aH.o w1 HE.o).mono ?_;rintro e w2⟨rfl,aB⟩;have A0:=Aa (aB.cell a0);have A1:=Aa (aB.cell a1);have A2:=Aa (aB.cell a2);have A3:=Aa (aB.cell a3);have A4:=Aa (aB.cell a4);have aD:=Aa (HE.o.trans aB);clear a0 a1 a2 a3 a4 aB aH HE;by_cases h1:F=0
 .subst h1;have a3:=A3.o;go_wp2_with fail
  refine(aK.o w2).mono ?_;rintro e w3⟨rfl,rfl⟩;by_cases h2:L=0
  .subst h2;have aG:=Aa (aJ.o rfl);have aA:=Aa (fun e h=>aI.o e (.inr (.inr ⟨by trivial,by trivial,h⟩)));go_wp2_with fail
   have aC:=Aa (fun (w':World) (h':Ex w3 w')=>(⟨h'.cell A0.o,h'.cell A1.o,h'.cell A2.o,h'.cell A3.o,h'.cell A4.o⟩:w'.cell? ⟨xb,0,none⟩=some (.int .i64 p)/\w'.cell? ⟨xb,1,none⟩=some (.int .i64 m)/\w'.cell? ⟨xb,2,none⟩=some (.slice ma ml.length mc)/\w'.cell? ⟨xb,3,none⟩=some (.int .i64 n)/\w'.cell? ⟨xb,4,none⟩=some (.slice za rows.length zc)));have G0:Ex w3 w3.drew:=(Ex.refl w3).drew;clear a3
   go_region_held3 (fun w'=>w'.cell? ⟨xb,0,none⟩=some (.int .i64 p)/\w'.cell? ⟨xb,1,none⟩=some (.int .i64 m)/\w'.cell? ⟨xb,2,none⟩=some (.slice ma ml.length mc)/\w'.cell? ⟨xb,3,none⟩=some (.int .i64 n)/\w'.cell? ⟨xb,4,none⟩=some (.slice za rows.length zc))
    (first|with_reducible exact aC.o _ X4|with_reducible exact aC.o _ X3|with_reducible exact aC.o _ G0)
    (first|(go_at_call 104;(with_reducible refine(aM.o _ (aD.o.trans G0)).mono ?_);rintro e w5⟨rfl,h3⟩;have X3:=G0.trans h3;clear h3)|(go_at_call 149;(with_reducible refine(aG.o _ (aD.o.trans X3)).mono ?_);rintro e w4⟨⟨e4,rfl,aL⟩,h4⟩;have X4:=X3.trans h4;clear h4))
   go_wp2_with fail
   go_ret;exact⟨⟨_,rfl,aA.o _ aL⟩,aD.o.trans X4⟩
  .have hb:(L !=0)=true:=by simpa using h2
   have aA:=Aa (aI.o L (.inr (.inl ⟨by trivial,h2,rfl⟩)));clear h2 a3;go_wp2_with fail
   go_ret;exact⟨⟨_,rfl,aA.o⟩,aD.o⟩
 .have hb:(F !=0)=true:=by simpa using h1
  have aA:=Aa (aI.o 1 (.inl ⟨h1,rfl⟩));clear h1;go_wp2_with fail
  go_ret;exact⟨⟨_,rfl,aA.o⟩,aD.o⟩
end
end Go.Proofs.YtehieobniamagaaGreat
