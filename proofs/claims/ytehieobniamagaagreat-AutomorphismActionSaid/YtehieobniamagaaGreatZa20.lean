/- Plain: the tower of representatives: sifting, completeness, what insert and visit keep. -/
import Derived.Test.YtehieobniamagaaGreatZa19
namespace Go.Proofs.YtehieobniamagaaGreat
set_option linter.all false
set_option maxRecDepth 100000
set_option maxHeartbeats 8000000
structure Tw where
 R:Nat->Nat->Option (Nat->Nat)
 g:Nat->List (Nat->Nat)
def C7(n:Nat)(R:Nat->Nat->Option (Nat->Nat)):Nat->Nat->(Nat->Nat)->(Nat->Nat) × Nat
 | 0,b,f=>(f,b)
 | k+1,b,f=>match R b (f b) with
  | none=>(f,b)
  | some r=>C7 n R k (b+1) (An f (AW n r))
def Sf(n:Nat)(R:Nat->Nat->Option (Nat->Nat)):Nat->Nat->(Nat->Nat)->Prop
 | 0,_,_=>True
 | k+1,b,f=>∃r,R b (f b)=some r/\Sf n R k (b+1) (An f (AW n r))
theorem Ku(n:Nat)(R:Nat->Nat->Option (Nat->Nat)):∀k b f,b<=(C7 n R k b f).2/\(C7 n R k b f).2<=b+k
 | 0,b,f=>⟨Nat.le_refl _,Nat.le_refl _⟩
 | k+1,b,f=>by
  unfold C7;split
  .exact⟨Nat.le_refl _,by dsimp only;omega⟩
  .have:=Ku n R k (b+1) (An f (AW n ‹_›));omega
theorem OP(n:Nat)(R:Nat->Nat->Option (Nat->Nat)):∀k b f,Sf n R k b f↔(C7 n R k b f).2=b+k
 | 0,b,f=>⟨fun _=>rfl,fun _=>trivial⟩
 | k+1,b,f=>by
  unfold C7 Sf
  cases h:R b (f b) with
  | none=>exact⟨fun ⟨r,h1,_⟩=>by exact(nomatch h1),fun h1=>by have h1:b=b+(k+1):=h1;omega⟩
  | some r=>
   dsimp only;rw[show b+(k+1)=b+1+k by omega,<-OP n R k (b+1)];exact⟨fun ⟨r',h1,h2⟩=>by injection h1 with h1;subst h1;exact h2,fun h=>⟨r,rfl,h⟩⟩
theorem Sf.mono{n:Nat}{R R':Nat->Nat->Option (Nat->Nat)}(hR:∀b x r,R b x=some r->R' b x=some r):∀ {k b f},Sf n R k b f->Sf n R' k b f
 | 0,_,_,_=>trivial
 | k+1,b,f,⟨r,h1,h2⟩=>⟨r,hR _ _ _ h1,h2.mono hR⟩
theorem Sf.congr{n c:Nat}{R R':Nat->Nat->Option (Nat->Nat)}(hR:∀b x,c<=b->R b x=R' b x):∀ {k b f},c<=b->Sf n R k b f->Sf n R' k b f
 | 0,_,_,_,_=>trivial
 | k+1,b,f,hb,⟨r,h1,h2⟩=>⟨r,by rw[<-hR b _ hb];exact h1,h2.congr hR (by omega)⟩
structure Cp(n:Nat)(t:Tw):Prop where
 rep:∀b x r,t.R b x=some r->b<n/\x<n/\A7 n r/\AY b r/\r b=x
 one:∀b,b<n->t.R b b=some DY
 gen:∀b h,h∈t.g b->A7 n h/\AY b h
theorem SC{n:Nat}{t:Tw}(hG:Cp n t):∀k b,b+k<=n->Sf n t.R k b DY
 | 0,_,_=>trivial
 | k+1,b,h=>⟨DY,hG.one b (by omega),by rw[Mh];exact SC hG k (b+1) (by omega)⟩
def Ey(n:Nat)(R:Nat->Nat->Option (Nat->Nat))(b:Nat)(q:Nat->Nat):Prop:=
 ∃r,R b (q b)=some r/\Sf n R (n-(b+1)) (b+1) (An q (AW n r))
theorem Ey.mono{n b:Nat}{R R':Nat->Nat->Option (Nat->Nat)}(hR:∀b x r,R b x=some r->R' b x=some r){q:Nat->Nat}(h:Ey n R b q):Ey n R' b q:=by
 obtain⟨r,h1,h2⟩:=h;exact⟨r,hR _ _ _ h1,h2.mono hR⟩
theorem Ey.congr{n b:Nat}{R R':Nat->Nat->Option (Nat->Nat)}(hR:∀c x,b<=c->R c x=R' c x){q:Nat->Nat}(h:Ey n R b q):Ey n R' b q:=by
 obtain⟨r,h1,h2⟩:=h;exact⟨r,by rw[<-hR b _ (Nat.le_refl _)];exact h1,h2.congr hR ac⟩
structure C6(n:Nat)(t:Tw)(c:Nat):Prop where
 done:∀x r,t.R c x=some r->∀h∈t.g c,Ey n t.R c (An r h)
 rep:∀c' x r,c<=c'->t.R c' x=some r->Gn (t.g c) r
 gen:∀c' h,c<=c'->h∈t.g c'->Gn (t.g c) h
theorem C6.congr{n c:Nat}{t t':Tw}(h:C6 n t c)(hR:∀b x,c<=b->t.R b x=t'.R b x)(hg:∀b,c<=b->t.g b=t'.g b):C6 n t' c:=
 ⟨fun x r hr k hk=>(h.done x r (by rw[hR _ _ (Nat.le_refl _)];exact hr) k (by rw[hg _ (Nat.le_refl _)];exact hk)).congr hR,
 fun c' x r hc hr=>by rw[<-hg _ (Nat.le_refl _)];exact h.rep c' x r hc (by rw[hR _ _ hc];exact hr),
 fun c' k hc hk=>by rw[<-hg _ (Nat.le_refl _)];exact h.gen c' k hc (by rw[hg _ hc];exact hk)⟩
theorem SA{n:Nat}{t:Tw}{H:(Nat->Nat)->Prop}(hG:Cp n t)(hH:WV n H):∀k b f,b+k=n->(∀c x r,b<=c->t.R c x=some r->H r)->A7 n f->AY b f->Sf n t.R k b f->H f
 | 0,b,f,hb,_,hP,hF,_=>by
  have:b=n:=ac;subst this;rw[hF.all hP];exact hH.one
 | k+1,b,f,hb,hr,hP,hF,⟨r,h1,h2⟩=>by
  obtain⟨_,_,h3,h4,h5⟩:=hG.rep _ _ _ h1;have:=SA hG hH k (b+1) (An f (AW n r)) ac (fun c x r' hc=>hr c x r' ac) (hP.comp h3.inv) (hF.div h3 h4 h5) h2;have h6:=hH.mul _ _ this (hr _ _ _ (Nat.le_refl _) h1)
  rwa[h3.cancel]at h6
theorem SD{n:Nat}{t:Tw}(hG:Cp n t):∀k b,b+(k+1)=n->(∀c,b<=c->c<n->C6 n t c)->∀f,A7 n f->AY b f->(Sf n t.R (k+1) b f↔Gn (t.g b) f)
 | k,b,hb,hC,f,hP,hF=>by
  have aG:WV n (Gn (t.g b)):=Gn.grp fun s hs=>(hG.gen _ _ hs).1;refine⟨fun h=>SA hG aG (k+1) b f hb (fun c x r hc hr=>(hC b (Nat.le_refl _) ac).rep c x r hc hr) hP hF h,fun h=>?_⟩;clear hF hP
  induction h with
  | one=>exact SC hG _ _ ac
  | @step f s hf hs ih=>
   have aD:=hf.isP fun s hs=>(hG.gen _ _ hs).1;have aE:AY b f:=by
    clear ih
    induction hf with
    | one=>exact JJ _
    | step hf' hs' ih'=>exact(ih' (hf'.isP fun s hs=>(hG.gen _ _ hs).1)).comp (hG.gen _ _ hs').2
   obtain⟨r,h1,h2⟩:=ih;obtain⟨_,_,h3,h4,h5⟩:=hG.rep _ _ _ h1;obtain⟨r',h6,h7⟩:=(hC b (Nat.le_refl _) ac).done _ _ h1 s hs;obtain⟨_,_,h8,h9,aH⟩:=hG.rep _ _ _ h6;have aA:=(hG.gen _ _ hs);have e1:(An r s) b=(An f s) b:=by show s (r b)=s (f b);rw[h5]
   refine⟨r',by rw[<-e1];exact h6,?_⟩;have e2:An (An f s) (AW n r')=An (An f (AW n r)) (An (An r s) (AW n r')):=by
    conv=>lhs;rw[<-h3.cancel (f:=f)]
    rfl
   rw[e2];have hk:n-(b+1)=k:=ac;rw[hk]at h7;have hA:=aE.div h3 h4 h5;have hB:AY (b+1) (An (An r s) (AW n r')):=(h4.comp aA.2).div h8 h9 (by rw[aH]);have aC:=aD.comp h3.inv;have aB:=(h3.comp aA.1).comp h8.inv
   cases k with
   | zero=>trivial
   | succ k=>
    have IH:=SD hG k (b+1) ac fun c hc aF=>hC c ac aF;exact(IH _ (aC.comp aB) (hA.comp hB)).2 (((IH _ aC hA).1 h2).mul ((IH _ aB hB).1 h7))
def Ix(H:(Nat->Nat)->Prop)(b:Nat)(t:Tw):Prop:=(∀c x r,b<=c->t.R c x=some r->H r)/\∀c h,b<=c->h∈t.g c->H h
theorem Ix.up{H:(Nat->Nat)->Prop}{b c:Nat}{t:Tw}(h:Ix H b t)(hc:b<=c):Ix H c t:=⟨fun c' x r h1=>h.1 c' x r ac,fun c' x h1=>h.2 c' x ac⟩
def GV(b:Nat)(t t':Tw):Prop:=∀c,c<b->(∀x,t'.R c x=t.R c x)/\t'.g c=t.g c
theorem GV.refl(b:Nat)(t:Tw):GV b t t:=fun _ _=>⟨fun _=>rfl,rfl⟩
theorem GV.trans{b:Nat}{t u v:Tw}(h:GV b t u)(k:GV b u v):GV b t v:=fun c hc=>⟨fun x=>by rw[(k c hc).1,(h c hc).1],by rw[(k c hc).2,(h c hc).2]⟩
theorem GV.down{b c:Nat}{t u:Tw}(h:GV b t u)(hc:c<=b):GV c t u:=fun d hd=>h d ac
def PS(t t':Tw):Prop:=∀b x r,t.R b x=some r->t'.R b x=some r
theorem PS.trans{t u v:Tw}(h:PS t u)(k:PS u v):PS t v:=fun b x r hr=>k b x r (h b x r hr)
structure Ov(n b:Nat)(p:Nat->Nat)(t t':Tw):Prop where
 good:Cp n t'
 low:GV b t t'
 le:PS t t'
 comp:∀c,b<=c->c<n->C6 n t' c
 mem:Sf n t'.R (n-b) b p
 snd:∀H,WV n H->Ix H b t->H p->Ix H b t'
structure Uw(n b:Nat)(q:Nat->Nat)(t t':Tw):Prop where
 good:Cp n t'
 low:GV b t t'
 le:PS t t'
 gb:t'.g b=t.g b
 comp:∀c,b+1<=c->c<n->C6 n t' c
 done:Ey n t'.R b q
 new:∀x r,t.R b x=none->t'.R b x=some r->∀h∈t.g b,Ey n t'.R b (An r h)
 snd:∀H,WV n H->Ix H b t->H q->Ix H b t'
theorem Ov.same{n b:Nat}{p:Nat->Nat}{t:Tw}(hG:Cp n t)(hC:∀c,b<=c->c<n->C6 n t c)(h:Sf n t.R (n-b) b p):Ov n b p t t:=
 ⟨hG,GV.refl _ _,fun _ _ _ h=>h,hC,h,fun _ _ h _=>h⟩
theorem Ov.vis{n b:Nat}{q r:Nat->Nat}{t t':Tw}(hb:b<n)(hG:Cp n t)(hr:t.R b (q b)=some r)(h:Ov n (b+1) (An q (AW n r)) t t'):Uw n b q t t':=
 ⟨h.good,h.low.down ac,h.le,(h.low b ac).2,h.comp,⟨r,h.le _ _ _ hr,h.mem⟩,fun x r' h1 h2=>by
  rw[(h.low b ac).1 x,h1]at h2;exact(nomatch h2),fun H hH hS hq=>by
  have h1:=h.snd H hH (hS.up ac) (hH.mul _ _ hq (hH.inv _ (hS.1 _ _ _ (Nat.le_refl _) hr)));refine⟨fun c x r' hc aA=>?_,fun c k hc hk=>?_⟩
  .by_cases e:c=b
   .subst e;rw[(h.low c ac).1 x]at aA;exact hS.1 c x r' (Nat.le_refl _) aA
   .exact h1.1 c x r' ac aA
  .by_cases e:c=b
   .subst e;rw[(h.low c ac).2]at hk;exact hS.2 c k (Nat.le_refl _) hk
   .exact h1.2 c k ac hk⟩
def J9(t:Tw)(b x:Nat)(q:Nat->Nat):Tw:=⟨fun c y=>if c=b/\y=x then some q else t.R c y,t.g⟩
def PD(t:Tw)(b:Nat)(p:Nat->Nat):Tw:=⟨t.R,fun c=>if c=b then t.g c ++ [p] else t.g c⟩
structure MN(n b:Nat)(q:Nat->Nat)(t t':Tw)(k:Nat):Prop where
 good:Cp n t'
 low:GV b t t'
 le:PS t t'
 gb:t'.g b=t.g b
 comp:∀c,b+1<=c->c<n->C6 n t' c
 rep:t'.R b (q b)=some q
 done:∀j h,j<k->(t.g b)[j]?=some h->Ey n t'.R b (An q h)
 new:∀x r,x≠q b->t.R b x=none->t'.R b x=some r->∀h∈t.g b,Ey n t'.R b (An r h)
 snd:∀H,WV n H->Ix H b t->H q->Ix H b t'
theorem MN.start{n b:Nat}{q:Nat->Nat}{t:Tw}(hb:b<n)(hG:Cp n t)(hC:∀c,b+1<=c->c<n->C6 n t c)(hP:A7 n q)(hF:AY b q)(hr:t.R b (q b)=none):MN n b q t (J9 t b (q b) q) 0:=by
 have aA:PS t (J9 t b (q b) q):=fun c x r h=>by
  show(if c=b/\x=q b then some q else t.R c x)=some r
  split
  .rename_i e;rw[e.1,e.2,hr]at h;cases h
  .exact h
 refine⟨⟨fun c x r h=>?_,fun c hc=>aA _ _ _ (hG.one c hc),hG.gen⟩,fun c hc=>⟨fun x=>?_,rfl⟩,aA,rfl,fun c hc aB=>(hC c hc aB).congr (fun d x hd=>?_) (fun _ _=>rfl),?_,fun j h hj=>ac,fun x r hx h1 h2=>?_,fun H hH hS hq=>⟨fun c x r hc h=>?_,hS.2⟩⟩
 .have h:(if c=b/\x=q b then some q else t.R c x)=some r:=h;split at h
  .rename_i e;injection h with h;subst h;rw[e.1,e.2];exact⟨hb,hP.lt _ hb,hP,hF,rfl⟩
  .exact hG.rep c x r h
 .show(if c=b/\x=q b then some q else t.R c x)=t.R c x
  rw[if_neg ac]
 .show t.R d x=(if d=b/\x=q b then some q else t.R d x)
  rw[if_neg ac]
 .show(if b=b/\q b=q b then some q else t.R b (q b))=some q
  rw[if_pos ⟨rfl,rfl⟩]
 .have h2:(if b=b/\x=q b then some q else t.R b x)=some r:=h2;rw[if_neg (fun e=>hx e.2),h1]at h2;cases h2
 .have h:(if c=b/\x=q b then some q else t.R c x)=some r:=h;split at h
  .injection h with h;subst h;exact hq
  .exact hS.1 c x r hc h
theorem MN.step{n b k:Nat}{q h:Nat->Nat}{t u v:Tw}(hl:MN n b q t u k)(hk:(t.g b)[k]?=some h)(hv:Uw n b (An q h) u v):MN n b q t v (k+1):=
 ⟨hv.good,hl.low.trans hv.low,hl.le.trans hv.le,by rw[hv.gb,hl.gb],hv.comp,hv.le _ _ _ hl.rep,fun j s hj hs=>by
  by_cases e:j=k
  .subst e;rw[hk]at hs;injection hs with hs;subst hs;exact hv.done
  .exact(hl.done j s ac hs).mono hv.le,fun x r hx h1 h2 s hs=>by
  cases hu:u.R b x with
  | none=>exact hv.new x r hu h2 s (by rw[hl.gb];exact hs)
  | some r'=>
   have h3:=hv.le _ _ _ hu;rw[h2]at h3;injection h3 with h3;subst h3;exact(hl.new x r hx h1 hu s hs).mono hv.le,fun H hH hS hq=>by
  have h1:=hl.snd H hH hS hq;exact hv.snd H hH h1 (hH.mul _ _ hq (h1.2 b h (Nat.le_refl _) (by rw[hl.gb];exact List.mem_of_getElem? hk)))⟩
theorem MN.fin{n b k:Nat}{q:Nat->Nat}{t u:Tw}(hb:b<n)(hP:A7 n q)(hl:MN n b q t u k)(hk:(t.g b).length<=k):Uw n b q t u:=
 ⟨hl.good,hl.low,hl.le,hl.gb,hl.comp,⟨q,hl.rep,by rw[hP.then_inv];exact SC hl.good _ _ ac⟩,fun x r h1 h2 s hs=>by
  by_cases e:x=q b
  .subst e;rw[hl.rep]at h2;injection h2 with h2;subst h2;obtain⟨j,hj,e⟩:=List.getElem_of_mem hs;exact hl.done j s ac au
  .exact hl.new x r e h1 h2 s hs,hl.snd⟩
structure Iy(n b:Nat)(p:Nat->Nat)(t t':Tw)(x:Nat):Prop where
 good:Cp n t'
 low:GV b t t'
 le:PS t t'
 gb:t'.g b=t.g b ++ [p]
 comp:∀c,b+1<=c->c<n->C6 n t' c
 old:∀y r,y<x->t.R b y=some r->Ey n t'.R b (An r p)
 new:∀y r,t.R b y=none->t'.R b y=some r->∀h∈t'.g b,Ey n t'.R b (An r h)
 snd:∀H,WV n H->Ix H b t->H p->Ix H b t'
theorem Iy.start{n b:Nat}{p:Nat->Nat}{t:Tw}(hG:Cp n t)(hC:∀c,b+1<=c->c<n->C6 n t c)(hP:A7 n p)(hF:AY b p):Iy n b p t (PD t b p) 0:=by
 refine⟨⟨hG.rep,hG.one,fun c h hh=>?_⟩,fun c hc=>⟨fun _=>rfl,?_⟩,fun _ _ _ h=>h,?_,fun c hc aA=>(hC c hc aA).congr (fun _ _ _=>rfl) (fun d hd=>?_),fun y r hy=>ac,fun y r h1 h2=>?_,fun H hH hS hp=>⟨hS.1,fun c h hc hh=>?_⟩⟩
 .have h2:h∈(if c=b then t.g c ++ [p] else t.g c):=hh;by_cases e:c=b
  .subst e;rw[if_pos rfl]at h2;rcases List.mem_append.1 h2 with h1|h1
   .exact hG.gen c h h1
   .rw[List.mem_singleton.1 h1];exact⟨hP,hF⟩
  .rw[if_neg e]at h2;exact hG.gen c h h2
 .show(if c=b then t.g c ++ [p] else t.g c)=t.g c
  rw[if_neg ac]
 .show(if b=b then t.g b ++ [p] else t.g b)=_
  rw[if_pos rfl]
 .show t.g d=(if d=b then t.g d ++ [p] else t.g d)
  rw[if_neg ac]
 .have h2:t.R b y=some r:=h2;rw[h1]at h2;cases h2
 .have hh:h∈(if c=b then t.g c ++ [p] else t.g c):=hh;split at hh
  .rcases List.mem_append.1 hh with h1|h1
   .exact hS.2 c h hc h1
   .rw[List.mem_singleton.1 h1];exact hp
  .exact hS.2 c h hc hh
theorem Iy.skip{n b x:Nat}{p:Nat->Nat}{t u:Tw}(hl:Iy n b p t u x)(h:t.R b x=none):Iy n b p t u (x+1):=
 ⟨hl.good,hl.low,hl.le,hl.gb,hl.comp,fun y r hy hr=>by
  by_cases e:y=x
  .subst e;rw[h]at hr;cases hr
  .exact hl.old y r ac hr,hl.new,hl.snd⟩
theorem Iy.step{n b x:Nat}{p r:Nat->Nat}{t u v:Tw}(hl:Iy n b p t u x)(hr:t.R b x=some r)(hv:Uw n b (An r p) u v):Iy n b p t v (x+1):=
 ⟨hv.good,hl.low.trans hv.low,hl.le.trans hv.le,by rw[hv.gb,hl.gb],hv.comp,fun y r' hy aA=>by
  by_cases e:y=x
  .subst e;rw[hr]at aA;injection aA with aA;subst aA;exact hv.done
  .exact(hl.old y r' ac aA).mono hv.le,fun y r' h1 h2 s hs=>by
  rw[hv.gb]at hs
  cases hu:u.R b y with
  | none=>exact hv.new y r' hu h2 s hs
  | some r''=>
   have h3:=hv.le _ _ _ hu;rw[h2]at h3;injection h3 with h3;subst h3;exact(hl.new y r' h1 hu s hs).mono hv.le,fun H hH hS hp=>by
  have h1:=hl.snd H hH hS hp;exact hv.snd H hH h1 (hH.mul _ _ (h1.1 _ _ _ (Nat.le_refl _) (hl.le _ _ _ hr)) hp)⟩
theorem Iy.fin{n b x:Nat}{p:Nat->Nat}{t u:Tw}(hb:b<n)(hG:Cp n t)(hC:∀c,b<=c->c<n->C6 n t c)(hP:A7 n p)(hF:AY b p)(hl:Iy n b p t u x)(hx:n<=x):Ov n b p t u:=by
 have aE:WV n (Gn (u.g b)):=Gn.grp fun s hs=>(hl.good.gen _ _ hs).1;have hp:Gn (u.g b) p:=Gn.of (by rw[hl.gb];simp);have aA:∀f,Gn (t.g b) f->Gn (u.g b) f:=fun f hf=>hf.mono fun s hs=>Gn.of (by rw[hl.gb];exact List.mem_append_left _ hs);have hS:=hl.snd _ aE ⟨fun c x r hc hr=>aA _ ((hC b (Nat.le_refl _) hb).rep c x r hc hr),fun c k hc hk=>aA _ ((hC b (Nat.le_refl _) hb).gen c k hc hk)⟩ hp;have aD:C6 n u b:=⟨fun y r hr s hs=>by
   cases h:t.R b y with
   | none=>exact hl.new y r h hr s hs
   | some r'=>
    have h3:=hl.le _ _ _ h;rw[hr]at h3;injection h3 with h3;subst h3;rw[hl.gb]at hs;rcases List.mem_append.1 hs with h1|h1
    .exact((hC b (Nat.le_refl _) hb).done y r h s h1).mono hl.le
    .rw[List.mem_singleton.1 h1];exact hl.old y r (by have:=(hG.rep _ _ _ h).2.1;omega) h,hS.1,hS.2⟩
 have aB:∀c,b<=c->c<n->C6 n u c:=fun c hc aC=>by
  by_cases e:c=b
  .subst e;exact aD
  .exact hl.comp c ac aC
 refine⟨hl.good,hl.low,hl.le,aB,?_,hl.snd⟩;obtain⟨k,hk⟩:∃k,n-b=k+1:=⟨n-b-1,ac⟩;rw[hk];exact(SD hl.good k b ac aB p hP hF).2 hp
def L6(n:Nat):Tw:=⟨fun b x=>if b<n/\x=b then some DY else none,fun _=> []⟩
theorem RA(n:Nat):Cp n (L6 n):=
 ⟨fun b x r h=>by
  have h:(if b<n/\x=b then some DY else none)=some r:=h;split at h
  .rename_i e;injection h with h;subst h;exact⟨e.1,ac,EI n,JJ _,e.2.symm⟩
  .exact(nomatch h),fun b hb=>by
  show(if b<n/\b=b then some DY else none)=some DY
  rw[if_pos ⟨hb,rfl⟩],fun _ _ h=>by cases h⟩
theorem RC(n c:Nat):C6 n (L6 n) c:=
 ⟨fun _ _ _ _ h=>by (first|cases h|exact absurd h (List.not_mem_nil)),fun c' x r _ h=>by
  have h:(if c'<n/\x=c' then some DY else none)=some r:=h;split at h
  .injection h with h;subst h;exact .one
  .exact(nomatch h),fun _ _ _ h=>by cases h⟩
structure GW(n:Nat)(S:List (Nat->Nat))(t:Tw)(k:Nat):Prop where
 good:Cp n t
 comp:∀c,c<n->C6 n t c
 mem:∀j s,j<k->S[j]?=some s->Sf n t.R n 0 s
 snd:Ix (Gn S) 0 t
theorem GW.start{n:Nat}{S:List (Nat->Nat)}:GW n S (L6 n) 0:=
 ⟨RA n,fun c _=>RC n c,fun j s h=>ac,fun c x r _ h=>by
  have h:(if c<n/\x=c then some DY else none)=some r:=h;split at h
  .injection h with h;subst h;exact .one
  .exact(nomatch h),fun _ _ _ h=>by cases h⟩
theorem GW.step{n k:Nat}{S:List (Nat->Nat)}{t t':Tw}{s:Nat->Nat}(hS:∀s∈S,A7 n s)(h:GW n S t k)(hs:S[k]?=some s)(hi:Ov n 0 s t t'):GW n S t' (k+1):=
 ⟨hi.good,fun c hc=>hi.comp c ac hc,fun j s' hj aA=>by
  by_cases e:j=k
  .subst e;rw[hs]at aA;injection aA with aA;subst aA;exact hi.mem
  .exact(h.mem j s' ac aA).mono hi.le,hi.snd _ (Gn.grp hS) h.snd (Gn.of (List.mem_of_getElem? hs))⟩
theorem Yx{n:Nat}{t:Tw}(hG:Cp n t){f:Nat->Nat}:∀k b,b+k=n->AY b f->(Sf n t.R n 0 f↔Sf n t.R k b f):=by
 intro k b
 induction b generalizing k with
 | zero=>intro h _;rw[show k=n by omega]
 | succ b ih=>
  intro h hF;rw[ih (k+1) ac (fun i hi=>hF i ac)];have hb:f b=b:=hF b ac;have h1:=hG.one b ac;constructor
  .rintro⟨r,h2,h3⟩;rw[hb,h1]at h2;injection h2 with h2;subst h2;rw[Mh]at h3;exact h3
  .intro h3;exact⟨DY,by rw[hb];exact h1,by rw[Mh];exact h3⟩
theorem GW.grp{n k:Nat}{S:List (Nat->Nat)}{t:Tw}(hn:1<=n)(hS:∀s∈S,A7 n s)(h:GW n S t k)(hk:S.length<=k){b:Nat}(hb:b<=n){f:Nat->Nat}(hP:A7 n f)(hF:AY b f):Sf n t.R (n-b) b f↔Gn S f:=by
 rw[<-Yx h.good (n-b) b ac hF];obtain⟨m,rfl⟩:∃m,n=m+1:=⟨n-1,ac⟩;have aA:=SD h.good m 0 ac (fun c _ hc=>h.comp c hc);constructor
 .intro h1;exact SA h.good (Gn.grp hS) (m+1) 0 f ac h.snd.1 hP (fun i hi=>ac) h1
 .intro h1;refine(aA f hP (fun i hi=>ac)).2 (h1.mono fun s hs=>?_);obtain⟨j,hj,e⟩:=List.getElem_of_mem hs;exact(aA s (hS s hs) (fun i hi=>ac)).1 (h.mem j s ac au)
theorem GW.orb{n k:Nat}{S:List (Nat->Nat)}{t:Tw}(hn:1<=n)(hS:∀s∈S,A7 n s)(h:GW n S t k)(hk:S.length<=k){b:Nat}(hb:b<n)(x:Nat):(∃r,t.R b x=some r)↔∃f,Gn S f/\AY b f/\f b=x:=by
 constructor
 .rintro⟨r,hr⟩;obtain⟨_,_,h1,h2,h3⟩:=h.good.rep _ _ _ hr;exact⟨r,h.snd.1 _ _ _ (Nat.zero_le _) hr,h2,h3⟩
 .rintro⟨f,hf,hF,rfl⟩;have:=(h.grp hn hS hk ac (hf.isP hS) hF).2 hf;rw[show n-b=n-(b+1)+1 by omega]at this;obtain⟨r,hr,_⟩:=this;exact⟨r,hr⟩
section
open Go.RowKit
def EY(e1 e2:Int)(aA:Bool)(n n':Int)(tl sl:List Int)(q:Nat):Int:=
 if e1≠0 then e1 else if e2≠0 then e2 else if aA=false∨n≠n' then 10 else if tl.length≠sl.length∨n<tl.length then 3 else if EJ tl n≠0 then EJ tl n else DS q sl
structure AU where
 p:Int
 m:Int
 ml:List Int
 n:Int
 rows:List (List Int)
def AU.arg(c:AU)(mv gv:Value):Value:= .agg #[.int .i64 c.p,.int .i64 c.m,mv,.int .i64 c.n,gv]
def AU.obj(c:AU)(mv gv:Value):Obj:= .cells #[.int .i64 c.p,.int .i64 c.m,mv,.int .i64 c.n,gv] 39
structure AU.at(c:AU)(w:World)(mv gv:Value):Prop where
 m:Aj w mv c.ml
 g:BT w gv c.rows
theorem AU.at.ex{c:AU}{w w':World}{mv gv:Value}(h:c.at w mv gv)(hx:Ex w w'):c.at w' mv gv:=⟨h.m.ex hx,h.g.ex hx⟩
def Z6(c d:AU)(tl sl:List Int)(v1 v2:Value)(w:World)(r:Ending)(w':World):Prop:=
 ∃e1 e2:Int,Ce c.p c.m c.ml c.n c.rows e1/\(e1=0->Ce d.p d.m d.ml d.n d.rows e2)/\
  ((EY e1 e2 (Cq c.p c.m c.ml d.p d.m d.ml) c.n d.n tl sl (c.p.toNat^c.m.toNat)≠0/\∃ptr:Option Addr,r= .returned (.tuple #[.pointer ptr,.int .i64 (EY e1 e2 (Cq c.p c.m c.ml d.p d.m d.ml) c.n d.n tl sl (c.p.toNat^c.m.toNat))]))∨
  (EY e1 e2 (Cq c.p c.m c.ml d.p d.m d.ml) c.n d.n tl sl (c.p.toNat^c.m.toNat)=0/\∃(w2:World) (A b x0 pn mn nn:Nat),c.p=pn/\c.m=mn/\c.n=nn/\r= .returned (.tuple #[.pointer (some ⟨A,0,none⟩),.int .i64 0])/\Ex w w2/\AP w2 b pn mn c.ml x0/\1<=x0/\x0<pn^mn/\w2.heap.size<=A/\Ex w2 w'/\Kh w' A b nn v1 v2/\w'.cell? ⟨A,11,none⟩=some (.int .i64 0)/\w'.frozen? ⟨A,11,none⟩=false))
theorem Eu{p m:Int}{ml:List Int}{n:Int}{rows:List (List Int)}(h:Ce p m ml n rows 0):F5 p m ml/\1<=n/\n<=64:=by
 rcases h with⟨_,h⟩|⟨_,h1,h2⟩|⟨h1,h2,h3⟩
 .cases h
 .exact absurd h2.symm h1
 .refine⟨?_,?_⟩
  .rcases h3 with⟨h3,h4⟩|⟨_,pn,mn,N,piv,a',_,_,_,h,_⟩
   .exact absurd h4.symm h3
   .exact h
  .unfold GK at h2;split at h2
   .cases h2
   .omega
theorem Dp(w:World)(c:AU)(mv gv:Value):(w.alloc (c.obj mv gv)).cell? ⟨w.heap.size,0,none⟩=some (.int .i64 c.p)/\(w.alloc (c.obj mv gv)).cell? ⟨w.heap.size,1,none⟩=some (.int .i64 c.m)/\(w.alloc (c.obj mv gv)).cell? ⟨w.heap.size,2,none⟩=some mv/\(w.alloc (c.obj mv gv)).cell? ⟨w.heap.size,3,none⟩=some (.int .i64 c.n)/\(w.alloc (c.obj mv gv)).cell? ⟨w.heap.size,4,none⟩=some gv:=
 ⟨by simp[AU.obj],by simp[AU.obj],by simp[AU.obj],by simp[AU.obj],by simp[AU.obj]⟩
theorem Fe{c d:AU}{tl sl:List Int}{v1 v2:Value}{w w':World}{e1 e2 E:Int}(h1:Ce c.p c.m c.ml c.n c.rows e1)(h2:e1=0->Ce d.p d.m d.ml d.n d.rows e2)(hE:EY e1 e2 (Cq c.p c.m c.ml d.p d.m d.ml) c.n d.n tl sl (c.p.toNat^c.m.toNat)=E)(h:E≠0)(aA:Option Addr):
  Z6 c d tl sl v1 v2 w (.returned (.tuple #[.pointer aA,.int .i64 E])) w':=
 ⟨e1,e2,h1,h2,.inl ⟨by rw[hE];exact h,aA,by rw[hE]⟩⟩
theorem za6{P:Prop}(h:P:=by
 go_wp2_with (go_at_call 191;refine aG.o.mono ?_;rintro e w4⟨rfl,aC⟩;have aB:=Aa (aE.o.trans aC);clear c0 c1 c2 c3 c4 d0 d1 d2 d3 d4 b0 b1;obtain⟨c0,c1,c2,c3,c4,d0,d1,d2,d3,d4,b0,b1⟩:=aA.o w4 aB.o;clear aC)
 go_ret2;exact⟨Fe aD.o (fun _=>aF.o) HE.o (by decide) _,HX.o.trans aB.o⟩):P:=h
theorem GZ(w:World)(c d:AU)(m1 m2 v1 v2:Value)(hc:c.at w m1 v1)(hd:d.at w m2 v2)(tl sl:List Int)(tv sv:Value)(ht:Aj w tv tl)(hs:Aj w sv sl):
  Calls Tryz.prog 141 #[c.arg m1 v1,d.arg m2 v2,.agg #[tv,sv]] w fun r w'=>Z6 c d tl sl v1 v2 w r w'/\Ex w w':=by
 obtain⟨c0,c1,c2,c3,c4⟩:=Dp w c m1 v1;obtain⟨d0,d1,d2,d3,d4⟩:=Dp (w.alloc (c.obj m1 v1)) d m2 v2;obtain⟨b0,b1,e3,-⟩:=AH ((w.alloc (c.obj m1 v1)).alloc (d.obj m2 v2)) tv sv;have aW:(w.alloc (c.obj m1 v1)).heap.size=w.heap.size+1:=ag;have aV:((w.alloc (c.obj m1 v1)).alloc (d.obj m2 v2)).heap.size=w.heap.size+1+1:=ag;have e1:=AE w (c.obj m1 v1);have e2:=AE (w.alloc (c.obj m1 v1)) (d.obj m2 v2);rw[aW]at d0 d1 d2 d3 d4;rw[aV]at b0 b1;have aX:=e1.trans (e2.trans e3);replace c0:=(e2.trans e3).cell c0;replace c1:=(e2.trans e3).cell c1;replace c2:=(e2.trans e3).cell c2;replace c3:=(e2.trans e3).cell c3;replace c4:=(e2.trans e3).cell c4;replace d0:=e3.cell d0;replace d1:=e3.cell d1;replace d2:=e3.cell d2;replace d3:=e3.cell d3;replace d4:=e3.cell d4;obtain⟨B,hB⟩:=nA w.heap.size;rw[hB]at c0 c1 c2 c3 c4 d0 d1 d2 d3 d4 b0 b1;obtain⟨ta,tc,rfl,-,t2,-⟩:=ht.open;obtain⟨sa,sc,rfl,-,s2,-⟩:=hs.open;obtain⟨x1,y1,rfl,-,z1,-⟩:=hc.g.open;obtain⟨x2,y2,rfl,-,z2,-⟩:=hd.g.open;obtain⟨x3,y3,rfl,-,z3,-⟩:=hc.m.open;obtain⟨x4,y4,rfl,-,z4,-⟩:=hd.m.open;unfold maxLen at t2 s2 z1 z2 z3 z4;obtain⟨HX,HC,HD,HT,HS⟩:=Of aX hc hd ht hs;clear hc hd ht hs e1 e2 e3 aW aV aX;unfold AU.arg;go_enter Tryz.func141,Tryz.ntmps141
 unfold AU.obj at c0 c1 c2 c3 c4 d0 d1 d2 d3 d4 b0 b1 HX;go_upto_region 1 with fail
 try simp only[hB]
 clear hB;generalize ((w.alloc (.cells #[.int .i64 c.p,.int .i64 c.m,.slice x3 c.ml.length y3,.int .i64 c.n,.slice x1 c.rows.length y1] 39)).alloc (.cells #[.int .i64 d.p,.int .i64 d.m,.slice x4 d.ml.length y4,.int .i64 d.n,.slice x2 d.rows.length y2] 39)).alloc (.cells #[.slice ta tl.length tc,.slice sa sl.length sc] 71)=w1 at *;have aA:=Aa (fun w' (h:Ex w1 w')=>(⟨h.cell c0,h.cell c1,h.cell c2,h.cell c3,h.cell c4,h.cell d0,h.cell d1,h.cell d2,h.cell d3,h.cell d4,h.cell b0,h.cell b1⟩:_/\_/\_/\_/\_/\_/\_/\_/\_/\_/\_/\_));have aL:=Aa (Df w1 c.p c.m c.ml _ (HC.o.m.ex HX.o) c.n c.rows _ (HC.o.g.ex HX.o));go_wp2_with fail
 refine aL.o.mono ?_;rintro e w2⟨⟨e1,rfl,bA⟩,aQ⟩;clear c0 c1 c2 c3 c4 d0 d1 d2 d3 d4 b0 b1 aL;obtain⟨c0,c1,c2,c3,c4,d0,d1,d2,d3,d4,b0,b1⟩:=aA.o w2 aQ;have aJ:=Aa aQ;have aD:=Aa bA;clear aQ bA;by_cases h1:e1=0
 .have k1:(e1==0)=true:=by simpa using h1
  have HF:=Aa (Eu (h1 ▸ aD.o));have aL:=Aa (Df w2 d.p d.m d.ml _ (HD.o.m.ex (HX.o.trans aJ.o)) d.n d.rows _ (HD.o.g.ex (HX.o.trans aJ.o)));have H1:=Aa h1;subst h1;go_wp2_with fail
  refine aL.o.mono ?_;rintro e w3⟨⟨e2,rfl,aZ⟩,aP⟩;clear c0 c1 c2 c3 c4 d0 d1 d2 d3 d4 b0 b1 aL;obtain⟨c0,c1,c2,c3,c4,d0,d1,d2,d3,d4,b0,b1⟩:=aA.o w3 (aJ.o.trans aP);have aE:=Aa (aJ.o.trans aP);have aF:=Aa aZ;clear aP aZ aJ;by_cases h2:e2=0
  .have k2:(e2==0)=true:=by simpa using h2
   have aG:=Aa (R9 w3 c.p c.m c.ml _ (HC.o.m.ex (HX.o.trans aE.o)) d.p d.m d.ml _ (HD.o.m.ex (HX.o.trans aE.o)));obtain⟨Sm,aR⟩:∃b,Cq c.p c.m c.ml d.p d.m d.ml=b:=⟨_,rfl⟩;rw[aR]at aG;have aN:=Aa aR;subst h2;clear aR
   cases Sm with
   | false=>
    have HE:=Aa (show EY 0 0 (Cq c.p c.m c.ml d.p d.m d.ml) c.n d.n tl sl (c.p.toNat^c.m.toNat)=10 from by
     unfold EY;rw[if_neg ae,if_neg ae,if_pos (.inl aN.o)])
    exact za6
   | true=>
    by_cases hn:c.n=d.n
    .have k3:(c.n !=d.n)=false:=by simp[hn]
     by_cases hl:tl.length=sl.length
     .have k4:((tl.length:Int) !=(sl.length:Int))=false:=by simp;omega
      have bG:(tl.length !=sl.length)=false:=aq;by_cases hg:c.n<tl.length
      .have k5:decide ((tl.length:Int) > c.n)=true:=by simpa using hg
       have bF:decide (c.n<(tl.length:Int))=true:=by simpa using hg
       have HE:=Aa (show EY 0 0 (Cq c.p c.m c.ml d.p d.m d.ml) c.n d.n tl sl (c.p.toNat^c.m.toNat)=3 from by
        unfold EY;rw[if_neg ae,if_neg ae,if_neg (by rw[aN.o];simp[hn]),if_pos (.inr hg)])
       have bJ:=Aa hl;clear hn hl hg;exact za6
      .have k5:decide ((tl.length:Int) > c.n)=false:=by simpa using hg
       have bF:decide (c.n<(tl.length:Int))=false:=by simpa using hg
       have HE:=Aa (show EY 0 0 (Cq c.p c.m c.ml d.p d.m d.ml) c.n d.n tl sl (c.p.toNat^c.m.toNat)=if EJ tl c.n≠0 then EJ tl c.n else DS (c.p.toNat^c.m.toNat) sl from by
        unfold EY;rw[if_neg ae,if_neg ae,if_neg (by rw[aN.o];simp[hn]),if_neg ac])
       have aU:=Aa (fun w' (h:Ex w1 w')=>F7 w' tl _ c.n (HT.o.ex (HX.o.trans h)));obtain⟨I,hI⟩:=nA (EJ tl c.n);rw[hI]at aU HE;have bJ:=Aa hl;clear hn hl hg hI;by_cases hi0:I=0
       .have k6:(I !=0)=false:=by simp[hi0]
        have bE:(I==0)=true:=by simp[hi0]
        have bH:=Aa (fun w' (h:Ex w1 w')=>ES c.p c.m c.ml _ w' (HC.o.m.ex (HX.o.trans h)));have aH:=HE.o;rw[if_neg (by simp[hi0])]at aH;have HE:=Aa aH;subst hi0;clear aH;go_wp2_with (first|(go_at_call 191;refine aG.o.mono ?_;rintro e w4⟨rfl,aC⟩;have aB:=Aa (aE.o.trans aC);clear c0 c1 c2 c3 c4 d0 d1 d2 d3 d4 b0 b1;obtain⟨c0,c1,c2,c3,c4,d0,d1,d2,d3,d4,b0,b1⟩:=aA.o w4 aB.o;clear aC)|(go_at_call 150;refine(aU.o _ aB.o).mono ?_;rintro e w5⟨rfl,aK⟩;have aI:=Aa (aB.o.trans aK);clear c0 c1 c2 c3 c4 d0 d1 d2 d3 d4 b0 b1;obtain⟨c0,c1,c2,c3,c4,d0,d1,d2,d3,d4,b0,b1⟩:=aA.o w5 aI.o;clear aK))
        refine(bH.o _ aI.o).mono ?_;rintro e w6⟨ho,aY⟩;clear c0 c1 c2 c3 c4 d0 d1 d2 d3 d4 b0 b1;have aT:=Aa (aI.o.trans aY);obtain⟨c0,c1,c2,c3,c4,d0,d1,d2,d3,d4,b0,b1⟩:=aA.o w6 aT.o;clear aY;rcases ho with⟨pn,mn,x0,b,hp,hm,rfl,hgf,hx01,hx02⟩|⟨hnf,_⟩
        .have bD:=Aa (Io w6 hgf sl _ (HS.o.ex (HX.o.trans aT.o)));have HG:=Aa hgf;obtain⟨Fc,aS⟩:∃F,DS (pn^mn) sl=F:=⟨_,rfl⟩;rw[aS]at bD;have bC:=Aa (show c.p=pn/\c.m=mn from⟨hp,hm⟩);have HE:=Aa (show EY 0 0 (Cq c.p c.m c.ml d.p d.m d.ml) c.n d.n tl sl (c.p.toNat^c.m.toNat)=Fc from by
          rw[HE.o,hp,hm,<-aS];rfl)
         have bB:=Aa (show 1<=x0/\x0<pn^mn from⟨hx01,hx02⟩);clear hgf aS hp hm hx01 hx02;go_wp2_with fail
         refine bD.o.mono ?_;rintro e w7⟨rfl,aO⟩;clear c0 c1 c2 c3 c4 d0 d1 d2 d3 d4 b0 b1;have aM:=Aa (aT.o.trans aO);have bK:=Aa (HG.o.ex aO);obtain⟨c0,c1,c2,c3,c4,d0,d1,d2,d3,d4,b0,b1⟩:=aA.o w7 aM.o;clear aO;go_wp2_with fail
         go_ret2;by_cases hf0:Fc=0
         .subst hf0;refine⟨⟨0,0,aD.o,fun _=>aF.o,.inr ⟨HE.o,w7,w7.heap.size,b,x0,pn,mn,c.n.toNat,bC.o.1,bC.o.2,by have:=HF.o.2.1;omega,rfl,HX.o.trans aM.o,bK.o,bB.o.1,bB.o.2,Nat.le_refl _,AE w7 _,⟨ag,?_,ag,ag⟩,ag,ag⟩⟩,(HX.o.trans aM.o).alloc _⟩;have:((c.n.toNat:Nat):Int)=c.n:=by have:=HF.o.2.1;omega
          rw[this];simp
         .exact⟨Fe aD.o (fun _=>aF.o) HE.o hf0 _,(HX.o.trans aM.o).alloc _⟩
        .exact absurd HF.o.1 hnf
       .have k6:(I !=0)=true:=by simpa using hi0
        have bE:(I==0)=false:=by simpa using hi0
        have aH:=HE.o;rw[if_pos hi0]at aH;have HE:=Aa aH;have bI:=Aa hi0;clear aH hi0;go_wp2_with (first|(go_at_call 191;refine aG.o.mono ?_;rintro e w4⟨rfl,aC⟩;have aB:=Aa (aE.o.trans aC);clear c0 c1 c2 c3 c4 d0 d1 d2 d3 d4 b0 b1;obtain⟨c0,c1,c2,c3,c4,d0,d1,d2,d3,d4,b0,b1⟩:=aA.o w4 aB.o;clear aC)|(go_at_call 150;refine(aU.o _ aB.o).mono ?_;rintro e w5⟨rfl,aK⟩;have aI:=Aa (aB.o.trans aK);clear c0 c1 c2 c3 c4 d0 d1 d2 d3 d4 b0 b1;obtain⟨c0,c1,c2,c3,c4,d0,d1,d2,d3,d4,b0,b1⟩:=aA.o w5 aI.o;clear aK))
        go_ret2;exact⟨Fe aD.o (fun _=>aF.o) HE.o bI.o _,HX.o.trans aI.o⟩
     .have k4:((tl.length:Int) !=(sl.length:Int))=true:=by simp;omega
      have bG:(tl.length !=sl.length)=true:=aq;have HE:=Aa (show EY 0 0 (Cq c.p c.m c.ml d.p d.m d.ml) c.n d.n tl sl (c.p.toNat^c.m.toNat)=3 from by
       unfold EY;rw[if_neg ae,if_neg ae,if_neg (by rw[aN.o];simp[hn]),if_pos (.inl hl)])
      clear hn hl;exact za6
    .have k3:(c.n !=d.n)=true:=by simpa using hn
     have HE:=Aa (show EY 0 0 (Cq c.p c.m c.ml d.p d.m d.ml) c.n d.n tl sl (c.p.toNat^c.m.toNat)=10 from by
      unfold EY;rw[if_neg ae,if_neg ae,if_pos (.inr hn)])
     clear hn;exact za6
  .have k2:(e2==0)=false:=by simpa using h2
   have k2':(e2 !=0)=true:=by simpa using h2
   have HE:=Aa (show EY 0 e2 (Cq c.p c.m c.ml d.p d.m d.ml) c.n d.n tl sl (c.p.toNat^c.m.toNat)=e2 from by
    unfold EY;rw[if_neg ae,if_pos h2])
   have HI:=Aa h2;clear h2;go_wp2_with fail
   go_ret2;exact⟨Fe aD.o (fun _=>aF.o) HE.o HI.o _,HX.o.trans aE.o⟩
 .have k1:(e1==0)=false:=by simpa using h1
  have k1':(e1 !=0)=true:=bw;have HE:=Aa (show EY e1 0 (Cq c.p c.m c.ml d.p d.m d.ml) c.n d.n tl sl (c.p.toNat^c.m.toNat)=e1 from by
   unfold EY;rw[if_pos h1])
  have HI:=Aa h1;clear h1;go_wp2_with fail
  go_ret2;exact⟨Fe aD.o (fun h=>absurd h HI.o) HE.o HI.o _,HX.o.trans aJ.o⟩
end
end Go.Proofs.YtehieobniamagaaGreat
