/- Plain: the tower of representatives: sifting, completeness, what insert and visit keep. -/
import Derived.Test.YtehieobniamagaaGreatZd13
namespace Go.Proofs.YtehieobniamagaaGreat
open Go.RowKit
set_option linter.all false
set_option maxRecDepth 100000
set_option maxHeartbeats 8000000
structure Tw where
 R:Nat->Nat->Option (Nat->Nat)
 g:Nat->List (Nat->Nat)
def DC(n:Nat)(R:Nat->Nat->Option (Nat->Nat)):Nat->Nat->(Nat->Nat)->(Nat->Nat) × Nat
 | 0,b,f=>(f,b)
 | k+1,b,f=>match R b (f b) with
  | none=>(f,b)
  | some r=>DC n R k (b+1) (Ar f (A8 n r))
def Sf(n:Nat)(R:Nat->Nat->Option (Nat->Nat)):Nat->Nat->(Nat->Nat)->Prop
 | 0,_,_=>True
 | k+1,b,f=>∃r,R b (f b)=some r/\Sf n R k (b+1) (Ar f (A8 n r))
theorem Mc(n:Nat)(R:Nat->Nat->Option (Nat->Nat)):∀k b f,b<=(DC n R k b f).2/\(DC n R k b f).2<=b+k
 | 0,b,f=>⟨Nat.le_refl _,Nat.le_refl _⟩
 | k+1,b,f=>by
  unfold DC;split
  .exact⟨Nat.le_refl _,by dsimp only;omega⟩
  .have:=Mc n R k (b+1) (Ar f (A8 n ‹_›));omega
theorem QL(n:Nat)(R:Nat->Nat->Option (Nat->Nat)):∀k b f,Sf n R k b f↔(DC n R k b f).2=b+k
 | 0,b,f=>⟨fun _=>rfl,fun _=>trivial⟩
 | k+1,b,f=>by
  unfold DC Sf
  cases h:R b (f b) with
  | none=>exact⟨fun ⟨r,h1,_⟩=>by exact(nomatch h1),fun h1=>by have h1:b=b+(k+1):=h1;omega⟩
  | some r=>
   dsimp only;rw[show b+(k+1)=b+1+k by omega,<-QL n R k (b+1)];exact⟨fun ⟨r',h1,h2⟩=>by injection h1 with h1;subst h1;exact h2,fun h=>⟨r,rfl,h⟩⟩
theorem Sf.mono{n:Nat}{R R':Nat->Nat->Option (Nat->Nat)}(hR:∀b x r,R b x=some r->R' b x=some r):∀ {k b f},Sf n R k b f->Sf n R' k b f
 | 0,_,_,_=>trivial
 | k+1,b,f,⟨r,h1,h2⟩=>⟨r,hR _ _ _ h1,h2.mono hR⟩
theorem Sf.congr{n c:Nat}{R R':Nat->Nat->Option (Nat->Nat)}(hR:∀b x,c<=b->R b x=R' b x):∀ {k b f},c<=b->Sf n R k b f->Sf n R' k b f
 | 0,_,_,_,_=>trivial
 | k+1,b,f,hb,⟨r,h1,h2⟩=>⟨r,by rw[<-hR b _ hb];exact h1,h2.congr hR (by omega)⟩
structure CQ(n:Nat)(t:Tw):Prop where
 rep:∀b x r,t.R b x=some r->b<n/\x<n/\Bw n r/\AW b r/\r b=x
 one:∀b,b<n->t.R b b=some EN
 gen:∀b h,h∈t.g b->Bw n h/\AW b h
theorem UV{n:Nat}{t:Tw}(hG:CQ n t):∀k b,b+k<=n->Sf n t.R k b EN
 | 0,_,_=>trivial
 | k+1,b,h=>⟨EN,hG.one b (by omega),by rw[NM];exact UV hG k (b+1) (by omega)⟩
def Fv(n:Nat)(R:Nat->Nat->Option (Nat->Nat))(b:Nat)(q:Nat->Nat):Prop:=
 ∃r,R b (q b)=some r/\Sf n R (n-(b+1)) (b+1) (Ar q (A8 n r))
theorem Fv.mono{n b:Nat}{R R':Nat->Nat->Option (Nat->Nat)}(hR:∀b x r,R b x=some r->R' b x=some r){q:Nat->Nat}(h:Fv n R b q):Fv n R' b q:=by
 obtain⟨r,h1,h2⟩:=h;exact⟨r,hR _ _ _ h1,h2.mono hR⟩
theorem Fv.congr{n b:Nat}{R R':Nat->Nat->Option (Nat->Nat)}(hR:∀c x,b<=c->R c x=R' c x){q:Nat->Nat}(h:Fv n R b q):Fv n R' b q:=by
 obtain⟨r,h1,h2⟩:=h;exact⟨r,by rw[<-hR b _ (Nat.le_refl _)];exact h1,h2.congr hR ac⟩
structure Dz(n:Nat)(t:Tw)(c:Nat):Prop where
 done:∀x r,t.R c x=some r->∀h∈t.g c,Fv n t.R c (Ar r h)
 rep:∀c' x r,c<=c'->t.R c' x=some r->Gn (t.g c) r
 gen:∀c' h,c<=c'->h∈t.g c'->Gn (t.g c) h
theorem Dz.congr{n c:Nat}{t t':Tw}(h:Dz n t c)(hR:∀b x,c<=b->t.R b x=t'.R b x)(hg:∀b,c<=b->t.g b=t'.g b):Dz n t' c:=
 ⟨fun x r hr k hk=>(h.done x r (by rw[hR _ _ (Nat.le_refl _)];exact hr) k (by rw[hg _ (Nat.le_refl _)];exact hk)).congr hR,
 fun c' x r hc hr=>by rw[<-hg _ (Nat.le_refl _)];exact h.rep c' x r hc (by rw[hR _ _ hc];exact hr),
 fun c' k hc hk=>by rw[<-hg _ (Nat.le_refl _)];exact h.gen c' k hc (by rw[hg _ hc];exact hk)⟩
theorem UU{n:Nat}{t:Tw}{H:(Nat->Nat)->Prop}(hG:CQ n t)(hH:WT n H):∀k b f,b+k=n->(∀c x r,b<=c->t.R c x=some r->H r)->Bw n f->AW b f->Sf n t.R k b f->H f
 | 0,b,f,hb,_,hP,hF,_=>by
  have:b=n:=ac;subst this;rw[hF.all hP];exact hH.one
 | k+1,b,f,hb,hr,hP,hF,⟨r,h1,h2⟩=>by
  obtain⟨_,_,h3,h4,h5⟩:=hG.rep _ _ _ h1;have:=UU hG hH k (b+1) (Ar f (A8 n r)) ac (fun c x r' hc=>hr c x r' ac) (hP.comp h3.inv) (hF.div h3 h4 h5) h2;have h6:=hH.mul _ _ this (hr _ _ _ (Nat.le_refl _) h1)
  rwa[h3.cancel]at h6
theorem UW{n:Nat}{t:Tw}(hG:CQ n t):∀k b,b+(k+1)=n->(∀c,b<=c->c<n->Dz n t c)->∀f,Bw n f->AW b f->(Sf n t.R (k+1) b f↔Gn (t.g b) f)
 | k,b,hb,hC,f,hP,hF=>by
  have aG:WT n (Gn (t.g b)):=Gn.grp fun s hs=>(hG.gen _ _ hs).1;refine⟨fun h=>UU hG aG (k+1) b f hb (fun c x r hc hr=>(hC b (Nat.le_refl _) ac).rep c x r hc hr) hP hF h,fun h=>?_⟩;clear hF hP
  induction h with
  | one=>exact UV hG _ _ ac
  | @step f s hf hs ih=>
   have aD:=hf.isP fun s hs=>(hG.gen _ _ hs).1;have aE:AW b f:=by
    clear ih
    induction hf with
    | one=>exact KR _
    | step hf' hs' ih'=>exact(ih' (hf'.isP fun s hs=>(hG.gen _ _ hs).1)).comp (hG.gen _ _ hs').2
   obtain⟨r,h1,h2⟩:=ih;obtain⟨_,_,h3,h4,h5⟩:=hG.rep _ _ _ h1;obtain⟨r',h6,h7⟩:=(hC b (Nat.le_refl _) ac).done _ _ h1 s hs;obtain⟨_,_,h8,h9,aH⟩:=hG.rep _ _ _ h6;have aA:=(hG.gen _ _ hs);have e1:(Ar r s) b=(Ar f s) b:=by show s (r b)=s (f b);rw[h5]
   refine⟨r',by rw[<-e1];exact h6,?_⟩;have e2:Ar (Ar f s) (A8 n r')=Ar (Ar f (A8 n r)) (Ar (Ar r s) (A8 n r')):=by
    conv=>lhs;rw[<-h3.cancel (f:=f)]
    rfl
   rw[e2];have hk:n-(b+1)=k:=ac;rw[hk]at h7;have hA:=aE.div h3 h4 h5;have hB:AW (b+1) (Ar (Ar r s) (A8 n r')):=(h4.comp aA.2).div h8 h9 (by rw[aH]);have aC:=aD.comp h3.inv;have aB:=(h3.comp aA.1).comp h8.inv
   cases k with
   | zero=>trivial
   | succ k=>
    have IH:=UW hG k (b+1) ac fun c hc aF=>hC c ac aF;exact(IH _ (aC.comp aB) (hA.comp hB)).2 (((IH _ aC hA).1 h2).mul ((IH _ aB hB).1 h7))
def Jw(H:(Nat->Nat)->Prop)(b:Nat)(t:Tw):Prop:=(∀c x r,b<=c->t.R c x=some r->H r)/\∀c h,b<=c->h∈t.g c->H h
theorem Jw.up{H:(Nat->Nat)->Prop}{b c:Nat}{t:Tw}(h:Jw H b t)(hc:b<=c):Jw H c t:=⟨fun c' x r h1=>h.1 c' x r ac,fun c' x h1=>h.2 c' x ac⟩
def Im(b:Nat)(t t':Tw):Prop:=∀c,c<b->(∀x,t'.R c x=t.R c x)/\t'.g c=t.g c
theorem Im.refl(b:Nat)(t:Tw):Im b t t:=fun _ _=>⟨fun _=>rfl,rfl⟩
theorem Im.trans{b:Nat}{t u v:Tw}(h:Im b t u)(k:Im b u v):Im b t v:=fun c hc=>⟨fun x=>by rw[(k c hc).1,(h c hc).1],by rw[(k c hc).2,(h c hc).2]⟩
theorem Im.down{b c:Nat}{t u:Tw}(h:Im b t u)(hc:c<=b):Im c t u:=fun d hd=>h d ac
def RS(t t':Tw):Prop:=∀b x r,t.R b x=some r->t'.R b x=some r
theorem RS.trans{t u v:Tw}(h:RS t u)(k:RS u v):RS t v:=fun b x r hr=>k b x r (h b x r hr)
structure Qv(n b:Nat)(p:Nat->Nat)(t t':Tw):Prop where
 good:CQ n t'
 low:Im b t t'
 le:RS t t'
 comp:∀c,b<=c->c<n->Dz n t' c
 mem:Sf n t'.R (n-b) b p
 snd:∀H,WT n H->Jw H b t->H p->Jw H b t'
structure WM(n b:Nat)(q:Nat->Nat)(t t':Tw):Prop where
 good:CQ n t'
 low:Im b t t'
 le:RS t t'
 gb:t'.g b=t.g b
 comp:∀c,b+1<=c->c<n->Dz n t' c
 done:Fv n t'.R b q
 new:∀x r,t.R b x=none->t'.R b x=some r->∀h∈t.g b,Fv n t'.R b (Ar r h)
 snd:∀H,WT n H->Jw H b t->H q->Jw H b t'
theorem Qv.same{n b:Nat}{p:Nat->Nat}{t:Tw}(hG:CQ n t)(hC:∀c,b<=c->c<n->Dz n t c)(h:Sf n t.R (n-b) b p):Qv n b p t t:=
 ⟨hG,Im.refl _ _,fun _ _ _ h=>h,hC,h,fun _ _ h _=>h⟩
theorem Qv.vis{n b:Nat}{q r:Nat->Nat}{t t':Tw}(hb:b<n)(hG:CQ n t)(hr:t.R b (q b)=some r)(h:Qv n (b+1) (Ar q (A8 n r)) t t'):WM n b q t t':=
 ⟨h.good,h.low.down ac,h.le,(h.low b ac).2,h.comp,⟨r,h.le _ _ _ hr,h.mem⟩,fun x r' h1 h2=>by
  rw[(h.low b ac).1 x,h1]at h2;exact(nomatch h2),fun H hH hS hq=>by
  have h1:=h.snd H hH (hS.up ac) (hH.mul _ _ hq (hH.inv _ (hS.1 _ _ _ (Nat.le_refl _) hr)));refine⟨fun c x r' hc aA=>?_,fun c k hc hk=>?_⟩
  .by_cases e:c=b
   .subst e;rw[(h.low c ac).1 x]at aA;exact hS.1 c x r' (Nat.le_refl _) aA
   .exact h1.1 c x r' ac aA
  .by_cases e:c=b
   .subst e;rw[(h.low c ac).2]at hk;exact hS.2 c k (Nat.le_refl _) hk
   .exact h1.2 c k ac hk⟩
def Lu(t:Tw)(b x:Nat)(q:Nat->Nat):Tw:=⟨fun c y=>if c=b/\y=x then some q else t.R c y,t.g⟩
def RI(t:Tw)(b:Nat)(p:Nat->Nat):Tw:=⟨t.R,fun c=>if c=b then t.g c ++ [p] else t.g c⟩
structure Ol(n b:Nat)(q:Nat->Nat)(t t':Tw)(k:Nat):Prop where
 good:CQ n t'
 low:Im b t t'
 le:RS t t'
 gb:t'.g b=t.g b
 comp:∀c,b+1<=c->c<n->Dz n t' c
 rep:t'.R b (q b)=some q
 done:∀j h,j<k->(t.g b)[j]?=some h->Fv n t'.R b (Ar q h)
 new:∀x r,x≠q b->t.R b x=none->t'.R b x=some r->∀h∈t.g b,Fv n t'.R b (Ar r h)
 snd:∀H,WT n H->Jw H b t->H q->Jw H b t'
theorem Ol.start{n b:Nat}{q:Nat->Nat}{t:Tw}(hb:b<n)(hG:CQ n t)(hC:∀c,b+1<=c->c<n->Dz n t c)(hP:Bw n q)(hF:AW b q)(hr:t.R b (q b)=none):Ol n b q t (Lu t b (q b) q) 0:=by
 have aA:RS t (Lu t b (q b) q):=fun c x r h=>by
  show(if c=b/\x=q b then some q else t.R c x)=some r
  split
  .rename_i e;rw[e.1,e.2,hr]at h;cases h
  .exact h
 refine⟨⟨fun c x r h=>?_,fun c hc=>aA _ _ _ (hG.one c hc),hG.gen⟩,fun c hc=>⟨fun x=>?_,rfl⟩,aA,rfl,fun c hc aB=>(hC c hc aB).congr (fun d x hd=>?_) (fun _ _=>rfl),?_,fun j h hj=>ac,fun x r hx h1 h2=>?_,fun H hH hS hq=>⟨fun c x r hc h=>?_,hS.2⟩⟩
 .have h:(if c=b/\x=q b then some q else t.R c x)=some r:=h;split at h
  .rename_i e;injection h with h;subst h;rw[e.1,e.2];exact⟨hb,hP.lt _ hb,hP,hF,rfl⟩
  .exact hG.rep c x r h
 .show(if c=b/\x=q b then some q else t.R c x)=t.R c x
  rw[if_neg ac]
 .show t.R d x=(if d=b/\x=q b then some q else t.R d x)
  rw[if_neg ac]
 .show(if b=b/\q b=q b then some q else t.R b (q b))=some q
  rw[if_pos ⟨rfl,rfl⟩]
 .have h2:(if b=b/\x=q b then some q else t.R b x)=some r:=h2;rw[if_neg (fun e=>hx e.2),h1]at h2;cases h2
 .have h:(if c=b/\x=q b then some q else t.R c x)=some r:=h;split at h
  .injection h with h;subst h;exact hq
  .exact hS.1 c x r hc h
theorem Ol.step{n b k:Nat}{q h:Nat->Nat}{t u v:Tw}(hl:Ol n b q t u k)(hk:(t.g b)[k]?=some h)(hv:WM n b (Ar q h) u v):Ol n b q t v (k+1):=
 ⟨hv.good,hl.low.trans hv.low,hl.le.trans hv.le,by rw[hv.gb,hl.gb],hv.comp,hv.le _ _ _ hl.rep,fun j s hj hs=>by
  by_cases e:j=k
  .subst e;rw[hk]at hs;injection hs with hs;subst hs;exact hv.done
  .exact(hl.done j s ac hs).mono hv.le,fun x r hx h1 h2 s hs=>by
  cases hu:u.R b x with
  | none=>exact hv.new x r hu h2 s (by rw[hl.gb];exact hs)
  | some r'=>
   have h3:=hv.le _ _ _ hu;rw[h2]at h3;injection h3 with h3;subst h3;exact(hl.new x r hx h1 hu s hs).mono hv.le,fun H hH hS hq=>by
  have h1:=hl.snd H hH hS hq;exact hv.snd H hH h1 (hH.mul _ _ hq (h1.2 b h (Nat.le_refl _) (by rw[hl.gb];exact List.mem_of_getElem? hk)))⟩
theorem Ol.fin{n b k:Nat}{q:Nat->Nat}{t u:Tw}(hb:b<n)(hP:Bw n q)(hl:Ol n b q t u k)(hk:(t.g b).length<=k):WM n b q t u:=
 ⟨hl.good,hl.low,hl.le,hl.gb,hl.comp,⟨q,hl.rep,by rw[hP.then_inv];exact UV hl.good _ _ ac⟩,fun x r h1 h2 s hs=>by
  by_cases e:x=q b
  .subst e;rw[hl.rep]at h2;injection h2 with h2;subst h2;obtain⟨j,hj,e⟩:=List.getElem_of_mem hs;exact hl.done j s ac ar
  .exact hl.new x r e h1 h2 s hs,hl.snd⟩
structure Jx(n b:Nat)(p:Nat->Nat)(t t':Tw)(x:Nat):Prop where
 good:CQ n t'
 low:Im b t t'
 le:RS t t'
 gb:t'.g b=t.g b ++ [p]
 comp:∀c,b+1<=c->c<n->Dz n t' c
 old:∀y r,y<x->t.R b y=some r->Fv n t'.R b (Ar r p)
 new:∀y r,t.R b y=none->t'.R b y=some r->∀h∈t'.g b,Fv n t'.R b (Ar r h)
 snd:∀H,WT n H->Jw H b t->H p->Jw H b t'
theorem Jx.start{n b:Nat}{p:Nat->Nat}{t:Tw}(hG:CQ n t)(hC:∀c,b+1<=c->c<n->Dz n t c)(hP:Bw n p)(hF:AW b p):Jx n b p t (RI t b p) 0:=by
 refine⟨⟨hG.rep,hG.one,fun c h hh=>?_⟩,fun c hc=>⟨fun _=>rfl,?_⟩,fun _ _ _ h=>h,?_,fun c hc aA=>(hC c hc aA).congr (fun _ _ _=>rfl) (fun d hd=>?_),fun y r hy=>ac,fun y r h1 h2=>?_,fun H hH hS hp=>⟨hS.1,fun c h hc hh=>?_⟩⟩
 .have h2:h∈(if c=b then t.g c ++ [p] else t.g c):=hh;by_cases e:c=b
  .subst e;rw[if_pos rfl]at h2;rcases List.mem_append.1 h2 with h1|h1
   .exact hG.gen c h h1
   .rw[List.mem_singleton.1 h1];exact⟨hP,hF⟩
  .rw[if_neg e]at h2;exact hG.gen c h h2
 .show(if c=b then t.g c ++ [p] else t.g c)=t.g c
  rw[if_neg ac]
 .show(if b=b then t.g b ++ [p] else t.g b)=_
  rw[if_pos rfl]
 .show t.g d=(if d=b then t.g d ++ [p] else t.g d)
  rw[if_neg ac]
 .have h2:t.R b y=some r:=h2;rw[h1]at h2;cases h2
 .have hh:h∈(if c=b then t.g c ++ [p] else t.g c):=hh;split at hh
  .rcases List.mem_append.1 hh with h1|h1
   .exact hS.2 c h hc h1
   .rw[List.mem_singleton.1 h1];exact hp
  .exact hS.2 c h hc hh
theorem Jx.skip{n b x:Nat}{p:Nat->Nat}{t u:Tw}(hl:Jx n b p t u x)(h:t.R b x=none):Jx n b p t u (x+1):=
 ⟨hl.good,hl.low,hl.le,hl.gb,hl.comp,fun y r hy hr=>by
  by_cases e:y=x
  .subst e;rw[h]at hr;cases hr
  .exact hl.old y r ac hr,hl.new,hl.snd⟩
theorem Jx.step{n b x:Nat}{p r:Nat->Nat}{t u v:Tw}(hl:Jx n b p t u x)(hr:t.R b x=some r)(hv:WM n b (Ar r p) u v):Jx n b p t v (x+1):=
 ⟨hv.good,hl.low.trans hv.low,hl.le.trans hv.le,by rw[hv.gb,hl.gb],hv.comp,fun y r' hy aA=>by
  by_cases e:y=x
  .subst e;rw[hr]at aA;injection aA with aA;subst aA;exact hv.done
  .exact(hl.old y r' ac aA).mono hv.le,fun y r' h1 h2 s hs=>by
  rw[hv.gb]at hs
  cases hu:u.R b y with
  | none=>exact hv.new y r' hu h2 s hs
  | some r''=>
   have h3:=hv.le _ _ _ hu;rw[h2]at h3;injection h3 with h3;subst h3;exact(hl.new y r' h1 hu s hs).mono hv.le,fun H hH hS hp=>by
  have h1:=hl.snd H hH hS hp;exact hv.snd H hH h1 (hH.mul _ _ (h1.1 _ _ _ (Nat.le_refl _) (hl.le _ _ _ hr)) hp)⟩
theorem Jx.fin{n b x:Nat}{p:Nat->Nat}{t u:Tw}(hb:b<n)(hG:CQ n t)(hC:∀c,b<=c->c<n->Dz n t c)(hP:Bw n p)(hF:AW b p)(hl:Jx n b p t u x)(hx:n<=x):Qv n b p t u:=by
 have aE:WT n (Gn (u.g b)):=Gn.grp fun s hs=>(hl.good.gen _ _ hs).1;have hp:Gn (u.g b) p:=Gn.of (by rw[hl.gb];simp);have aA:∀f,Gn (t.g b) f->Gn (u.g b) f:=fun f hf=>hf.mono fun s hs=>Gn.of (by rw[hl.gb];exact List.mem_append_left _ hs);have hS:=hl.snd _ aE ⟨fun c x r hc hr=>aA _ ((hC b (Nat.le_refl _) hb).rep c x r hc hr),fun c k hc hk=>aA _ ((hC b (Nat.le_refl _) hb).gen c k hc hk)⟩ hp;have aD:Dz n u b:=⟨fun y r hr s hs=>by
   cases h:t.R b y with
   | none=>exact hl.new y r h hr s hs
   | some r'=>
    have h3:=hl.le _ _ _ h;rw[hr]at h3;injection h3 with h3;subst h3;rw[hl.gb]at hs;rcases List.mem_append.1 hs with h1|h1
    .exact((hC b (Nat.le_refl _) hb).done y r h s h1).mono hl.le
    .rw[List.mem_singleton.1 h1];exact hl.old y r (by have:=(hG.rep _ _ _ h).2.1;omega) h,hS.1,hS.2⟩
 have aB:∀c,b<=c->c<n->Dz n u c:=fun c hc aC=>by
  by_cases e:c=b
  .subst e;exact aD
  .exact hl.comp c ac aC
 refine⟨hl.good,hl.low,hl.le,aB,?_,hl.snd⟩;obtain⟨k,hk⟩:∃k,n-b=k+1:=⟨n-b-1,ac⟩;rw[hk];exact(UW hl.good k b ac aB p hP hF).2 hp
def Nw(n:Nat):Tw:=⟨fun b x=>if b<n/\x=b then some EN else none,fun _=> []⟩
theorem TY(n:Nat):CQ n (Nw n):=
 ⟨fun b x r h=>by
  have h:(if b<n/\x=b then some EN else none)=some r:=h;split at h
  .rename_i e;injection h with h;subst h;exact⟨e.1,ac,FD n,KR _,e.2.symm⟩
  .exact(nomatch h),fun b hb=>by
  show(if b<n/\b=b then some EN else none)=some EN
  rw[if_pos ⟨hb,rfl⟩],fun _ _ h=>by cases h⟩
theorem TZ(n c:Nat):Dz n (Nw n) c:=
 ⟨fun _ _ _ _ h=>by (first|cases h|exact absurd h (List.not_mem_nil)),fun c' x r _ h=>by
  have h:(if c'<n/\x=c' then some EN else none)=some r:=h;split at h
  .injection h with h;subst h;exact .one
  .exact(nomatch h),fun _ _ _ h=>by cases h⟩
structure Io(n:Nat)(S:List (Nat->Nat))(t:Tw)(k:Nat):Prop where
 good:CQ n t
 comp:∀c,c<n->Dz n t c
 mem:∀j s,j<k->S[j]?=some s->Sf n t.R n 0 s
 snd:Jw (Gn S) 0 t
theorem Io.start{n:Nat}{S:List (Nat->Nat)}:Io n S (Nw n) 0:=
 ⟨TY n,fun c _=>TZ n c,fun j s h=>ac,fun c x r _ h=>by
  have h:(if c<n/\x=c then some EN else none)=some r:=h;split at h
  .injection h with h;subst h;exact .one
  .exact(nomatch h),fun _ _ _ h=>by cases h⟩
theorem Io.step{n k:Nat}{S:List (Nat->Nat)}{t t':Tw}{s:Nat->Nat}(hS:∀s∈S,Bw n s)(h:Io n S t k)(hs:S[k]?=some s)(hi:Qv n 0 s t t'):Io n S t' (k+1):=
 ⟨hi.good,fun c hc=>hi.comp c ac hc,fun j s' hj aA=>by
  by_cases e:j=k
  .subst e;rw[hs]at aA;injection aA with aA;subst aA;exact hi.mem
  .exact(h.mem j s' ac aA).mono hi.le,hi.snd _ (Gn.grp hS) h.snd (Gn.of (List.mem_of_getElem? hs))⟩
theorem sf_up{n:Nat}{t:Tw}(hG:CQ n t){f:Nat->Nat}:∀k b,b+k=n->AW b f->(Sf n t.R n 0 f↔Sf n t.R k b f):=by
 intro k b
 induction b generalizing k with
 | zero=>intro h _;rw[show k=n by omega]
 | succ b ih=>
  intro h hF;rw[ih (k+1) ac (fun i hi=>hF i ac)];have hb:f b=b:=hF b ac;have h1:=hG.one b ac;constructor
  .rintro⟨r,h2,h3⟩;rw[hb,h1]at h2;injection h2 with h2;subst h2;rw[NM]at h3;exact h3
  .intro h3;exact⟨EN,by rw[hb];exact h1,by rw[NM];exact h3⟩
theorem Io.grp{n k:Nat}{S:List (Nat->Nat)}{t:Tw}(hn:1<=n)(hS:∀s∈S,Bw n s)(h:Io n S t k)(hk:S.length<=k){b:Nat}(hb:b<=n){f:Nat->Nat}(hP:Bw n f)(hF:AW b f):Sf n t.R (n-b) b f↔Gn S f:=by
 rw[<-sf_up h.good (n-b) b ac hF];obtain⟨m,rfl⟩:∃m,n=m+1:=⟨n-1,ac⟩;have aA:=UW h.good m 0 ac (fun c _ hc=>h.comp c hc);constructor
 .intro h1;exact UU h.good (Gn.grp hS) (m+1) 0 f ac h.snd.1 hP (fun i hi=>ac) h1
 .intro h1;refine(aA f hP (fun i hi=>ac)).2 (h1.mono fun s hs=>?_);obtain⟨j,hj,e⟩:=List.getElem_of_mem hs;exact(aA s (hS s hs) (fun i hi=>ac)).1 (h.mem j s ac ar)
theorem Io.orb{n k:Nat}{S:List (Nat->Nat)}{t:Tw}(hn:1<=n)(hS:∀s∈S,Bw n s)(h:Io n S t k)(hk:S.length<=k){b:Nat}(hb:b<n)(x:Nat):(∃r,t.R b x=some r)↔∃f,Gn S f/\AW b f/\f b=x:=by
 constructor
 .rintro⟨r,hr⟩;obtain⟨_,_,h1,h2,h3⟩:=h.good.rep _ _ _ hr;exact⟨r,h.snd.1 _ _ _ (Nat.zero_le _) hr,h2,h3⟩
 .rintro⟨f,hf,hF,rfl⟩;have:=(h.grp hn hS hk ac (hf.isP hS) hF).2 hf;rw[show n-b=n-(b+1)+1 by omega]at this;obtain⟨r,hr,_⟩:=this;exact⟨r,hr⟩
theorem Jd(w:World)(SB aA A:Nat)(nv tv sv:Value)(z:Int)(R:World->Prop)(c0:w.cell? ⟨SB,0,none⟩=some (.pointer (some ⟨A,0,none⟩)))(c1:w.cell? ⟨aA,0,none⟩=some nv)
  (HC:∀w',Ex w w'->Calls Tryz.prog 142 #[.pointer (some ⟨A,0,none⟩),.agg #[tv,sv],nv] w' fun r w''=>r= .returned (.int .i64 z)/\R w''):
  Calls Tryz.prog 193 #[.agg #[tv,sv],.pointer (some ⟨SB,0,none⟩),.pointer (some ⟨aA,0,none⟩)] w fun r w''=>r= .returned (.int .i64 z)/\R w'':=by
 obtain⟨b0,b1,eb,aB⟩:=AT w tv sv;have c0:=eb.cell c0;have c1:=eb.cell c1;have HX:=Aa (HC _ eb);obtain⟨B,hB⟩:=nA w.heap.size;rw[hB]at b0 b1;clear HC eb aB;go_enter Tryz.func193,Tryz.ntmps193
 go_wp2_with fail
 refine HX.o.mono ?_;rintro e w6⟨rfl,hr⟩;have HR:=Aa hr;clear hr;go_wp2_with fail
 go_ret;exact⟨rfl,HR.o⟩
def WN{σ:Type}(St:σ->World->Prop)(DM:World->Nat->Prop)(SB aA A:Nat)(nv:Value)(s:σ)(w:World):Prop:=
 St s w/\w.cell? ⟨SB,0,none⟩=some (.pointer (some ⟨A,0,none⟩))/\w.cell? ⟨aA,0,none⟩=some nv/\¬DM w SB/\¬DM w aA
theorem WN.stt{σ:Type}{St:σ->World->Prop}{DM:World->Nat->Prop}(H:UB St DM)(SB NTB A:Nat)(nv:Value):UB (WN St DM SB NTB A nv) DM where
 ex:=fun s w w' h hx=>⟨H.ex _ _ _ h.1 hx,hx.cell h.2.1,hx.cell h.2.2.1,fun hd=>h.2.2.2.1 (H.dx _ _ _ _ h.1 hx hd),fun hd=>h.2.2.2.2 (H.dx _ _ _ _ h.1 hx hd)⟩
 lt:=fun s w B h hd=>H.lt s w B h.1 hd
 dx:=fun s w w' B h hx hd=>H.dx s w w' B h.1 hx hd
theorem WN.keep{σ:Type}{St:σ->World->Prop}{DM:World->Nat->Prop}{SB aA A:Nat}{nv:Value}{s s':σ}{w w':World}(h:WN St DM SB aA A nv s w)(hs:St s' w')(k:AO DM w w'):WN St DM SB aA A nv s' w':=
 ⟨hs,k.cell h.2.2.2.1 h.2.1,k.cell h.2.2.2.2 h.2.2.1,(k.blk SB (World.block_lt_of_cell? _ _ h.2.1) h.2.2.2.1).2,(k.blk aA (World.block_lt_of_cell? _ _ h.2.2.1) h.2.2.2.2).2⟩
theorem Iz{l:List Int}{n:Nat}{j:Nat}(h:BU l n=true)(hj:j<n):BU (l ++ [(j:Int)]) n=true:=by
 unfold BU at *;rw[List.all_append,h];simp;omega
structure SrE(p m:Nat)(ml:List Int)(l1 l2:List (List Int))(n A b x0:Nat)(v1 v2:Value)(St:Nat × List Nd->World->Prop)(DM:World->Nat->Prop):Prop where
 stt:UB St DM
 pr:∀s w,St s w->LK w A b n v1 v2
 gf:∀s w,St s w->A9 w b p m ml x0
 m1:∀s w,St s w->BO w v1 l1
 m2:∀s w,St s w->BO w v2 l2
 c11:∀s w,St s w->w.cell? ⟨A,11,none⟩=some (.int .i64 s.1)/\w.frozen? ⟨A,11,none⟩=false
 le:∀s w,St s w->s.2.length<=s.1/\s.1<=65536
 seen:∀s w,St s w->s.1<65536->St (s.1+1,s.2) (w.setCell ⟨A,11,none⟩ (.int .i64 ((s.1:Int)+1)))/\AO DM w (w.setCell ⟨A,11,none⟩ (.int .i64 ((s.1:Int)+1)))
 x1:1<=x0
 x2:x0<p^m
 n64:n<=64
 r1:∀r∈l1,r.length=n
 r2:∀r∈l2,r.length=n
 k1:l1.length<=256
 k2:l2.length<=256
def Zp(p m:Nat)(ml:List Int)(l1 l2:List (List Int))(s:Nat × List Nd)(tl sl:List Int):Nat × List Nd:=(s.1+1,s.2 ++ [⟨tl,sl,(EV p m ml l1 l2 tl sl).1,Jr l1.length l2.length (EV p m ml l1 l2 tl sl)⟩])
def WY(p m:Nat)(ml:List Int)(l1 l2:List (List Int))(n:Nat)(s:Nat × List Nd)(tl sl:List Int)(X:(Nat × List Nd) × Int):(Nat × List Nd) × Int:=
 if s.1=65536 then(s,8) else if 0<=(EV p m ml l1 l2 tl sl).1 then(Zp p m ml l1 l2 s tl sl,0) else if tl.length=n then(Zp p m ml l1 l2 s tl sl,18) else X
theorem OV(p m:Nat)(ml:List Int)(l1 l2:List (List Int))(n:Nat)(s:Nat × List Nd)(tl sl:List Int):Lq p m ml l1 l2 n 0 s tl sl=WY p m ml l1 l2 n s tl sl (Zp p m ml l1 l2 s tl sl,0):=rfl
theorem OW(p m:Nat)(ml:List Int)(l1 l2:List (List Int))(n d:Nat)(s:Nat × List Nd)(tl sl:List Int):Lq p m ml l1 l2 n (d+1) s tl sl=WY p m ml l1 l2 n s tl sl (D9 (Lq p m ml l1 l2 n d) (p^m) tl sl n (Zp p m ml l1 l2 s tl sl)):=rfl
theorem OJ{R1 R2:Nat}(h1:R1<=256)(h2:R2<=256)(s:Int × Int):(Jr R1 R2 s).length<=256:=by
 unfold Jr R4;split
 .rw[AF];exact h1
 .split
  .rw[AF];exact h2
  .simp
theorem zab{P:Prop}(h:P:=by
 have cC:s.1<65536:=by omega
 have cF:((s.1:Int)==65536)=false:=by simp;omega
 have aZ:(s.1==65536)=false:=by simp;omega
 have bH:=aB.o;rw[if_neg h0]at bH;have aB:=Aa bH;obtain⟨bP,bV⟩:=HH.o.seen _ _ bJ.o cC;have aE:=Aa bP;have aC:=Aa bV;have aV:=aC.o.cell (aP.o SB (by omega)) s0;have bF:=aC.o.cell (aP.o (SB+1) (by omega)) b0;have bE:=aC.o.cell (aP.o (SB+1) (by omega)) b1;have aW:=aC.o.cell (aP.o (SB+1+1) (by omega)) n0;obtain⟨aO,aN,aJ,aI⟩:=Eq (cM.o.keep aC.o) (cJ.o.keep aC.o) (show(∀B,SB<=B->B<wC.heap.size->¬DM (wC.setCell ⟨A,11,none⟩ (.int .i64 ((s.1:Int)+1))) B) from fun B h1 h2=>(aC.o.blk B h2 (aP.o B h1)).2) (show SB<wC.heap.size/\SB+1<wC.heap.size/\SB+1+1<wC.heap.size from⟨World.block_lt_of_cell? _ _ s0,World.block_lt_of_cell? _ _ b0,World.block_lt_of_cell? _ _ n0⟩);have bI:=Aa (Ja (wC.setCell ⟨A,11,none⟩ (.int .i64 ((s.1:Int)+1))) (HH.o.gf _ _ aE.o) HH.o.x1 HH.o.x2 A n HH.o.n64 v1 v2 (HH.o.pr _ _ aE.o) l1 l2 (HH.o.m1 _ _ aE.o) (HH.o.m2 _ _ aE.o) HH.o.r1 HH.o.r2 HH.o.k1 HH.o.k2 tl sl (.slice ta tl.length tc) sv aO.o.1 aN.o.1 bZ.o cB cR.o);clear bP bV bH h0;obtain⟨wD,aX⟩:=nA (wC.setCell ⟨A,11,none⟩ (.int .i64 ((s.1:Int)+1)));rw[aX]at aE aC aO aN aJ bI aV bF bE aW;go_wp2_with fail
 try simp only[aX]
 clear aX s0 b0 b1 n0 cH cG;refine bI.o.mono ?_;rintro e w5⟨mv,rfl,bT,bU,aG⟩;have cQ:=Aa (HH.o.stt.ex _ _ _ aE.o aG);have aL:=Aa (HH.o.stt.keeps aE.o aG);have n5:=aG.cell aW;have b5:=aG.cell bF;have bD:=aG.cell bE;have s5:=aG.cell aV;have cT:=Aa (show CO DM w5 mv (Jr l1.length l2.length (EV p m ml l1 l2 tl sl)) from CO.fresh bT fun B hB=>HH.o.stt.new aE.o aG (bU B hB));obtain⟨aR,aH,cO,cL,aK⟩:=Of (HN.o (s.1+1,s.2) w5 tl sl (.slice ta tl.length tc) sv (EV p m ml l1 l2 tl sl).1 _ mv cQ.o (by show s.2.length<s.1+1;omega) (aO.o.keep aL.o) (aN.o.keep aL.o) cT.o bZ.o (by omega) (OJ HH.o.k1 HH.o.k2 _) cS.o) (fun B (h1:SB<=B) (h2:B<wC.heap.size)=>(aL.o.blk B (Nat.lt_of_lt_of_le h2 aC.o.size) (aJ.o B h1 h2)).2) (aO.o.keep aL.o) (aN.o.keep aL.o) (aU.o.trans (aC.o.trans aL.o));clear bT bU aG bI aV bF bE aW aE aO aN aJ;obtain⟨Wi,aT⟩:∃W,(EV p m ml l1 l2 tl sl).1=W:=⟨_,rfl⟩;rw[aT]at aR aB
 try simp only[aT]
 obtain⟨S1,bC⟩:=nA (Zp p m ml l1 l2 s tl sl);have aM:(s.1+1,s.2 ++ [⟨tl,sl,Wi,Jr l1.length l2.length (EV p m ml l1 l2 tl sl)⟩])=S1:=by rw[<-bC,<-aT];rfl
 rw[aM]at aR;rw[bC]at aB HX;clear aT bC aM;by_cases hW:0<=Wi
 .have cE:decide ((0:Int)<=Wi)=true:=by simpa using hW
  have hy:=aB.o;rw[if_pos hW]at hy;subst hy;clear hW aB HX;go_wp2_with (refine aR.o.mono ?_;rintro e w6⟨⟨t,rfl⟩,aD,aA⟩;have aF:=Aa aD;have aQ:=Aa (aK.o.trans aA);clear aD aA)
  go_ret;exact⟨rfl,aF.o,aQ.o⟩
 .have cE:decide ((0:Int)<=Wi)=false:=by simpa using hW
  have bG:=aB.o;rw[if_neg hW]at bG;have aB:=Aa bG;clear hW bG;by_cases hn:tl.length=n
  .have hy:=aB.o;rw[if_pos hn]at hy;subst hy;have cD:((tl.length:Int)==(n:Int))=true:=by simp;omega
   have aY:(tl.length==n)=true:=by simp;omega
   have HA:=Aa (fun w' (h:St S1 w')=>(HH.o.pr _ _ h).c4);clear hn aB HX;go_wp2_with (refine aR.o.mono ?_;rintro e w6⟨⟨t,rfl⟩,aD,aA⟩;have a4:=HA.o w6 aD;have s6:=aA.cell (aH.o SB (by omega) aI.o.1) s5;have b6:=aA.cell (aH.o (SB+1) (by omega) aI.o.2.1) b5;have aF:=Aa aD;have aQ:=Aa (aK.o.trans aA);clear aD aA s5 b5 bD n5)
   go_quiet (fail)
   go_wp2_with fail
   go_ret;exact⟨rfl,HH.o.stt.ex _ _ _ aF.o ((Ex.refl _).drewN _),aQ.o.trans (HH.o.stt.keeps aF.o ((Ex.refl _).drewN _))⟩
  .have hy:=aB.o;rw[if_neg hn]at hy;subst hy;have cD:((tl.length:Int)==(n:Int))=false:=by simp;omega
   have aY:(tl.length==n)=false:=by simp;omega
   have HA:=Aa (fun w' (h:St S1 w')=>(HH.o.pr _ _ h).c4);have bY:=Aa (HX.o hn);clear hn aB HX;go_wp2_with (refine aR.o.mono ?_;rintro e w6⟨⟨t,rfl⟩,aD,aA⟩;have a4:=HA.o w6 aD;have s6:=aA.cell (aH.o SB (by omega) aI.o.1) s5;have b6:=aA.cell (aH.o (SB+1) (by omega) aI.o.2.1) b5;have b6':=aA.cell (aH.o (SB+1) (by omega) aI.o.2.1) bD;have n6:=aA.cell (aH.o (SB+1+1) (by omega) aI.o.2.2) n5;have aF:=Aa aD;have aQ:=Aa (aK.o.trans aA);have cA:=Aa aA;have cN:=Aa (cO.o.keep aA);have cK:=Aa (cL.o.keep aA);clear aD aA s5 b5 bD n5)
   have bK:=Aa (fun B (h1:SB<=B) (h2:B<wC.heap.size)=>(cA.o.blk B (Nat.lt_of_lt_of_le h2 (Nat.le_trans aC.o.size aL.o.size)) (aH.o B h1 h2)).2);have cI:=Aa (fun k=>bY.o (w6.drewN k) SB (SB+1+1) ((WN.stt HH.o.stt SB (SB+1+1) A _).ex _ _ _ ⟨aF.o,s6,n6,bK.o SB (by omega) aI.o.1,bK.o (SB+1+1) (by omega) aI.o.2.2⟩ ((Ex.refl _).drewN k)) (cN.o.keep (HH.o.stt.keeps aF.o ((Ex.refl _).drewN k))) (cK.o.keep (HH.o.stt.keeps aF.o ((Ex.refl _).drewN k))));have cU:=Aa (fun k=>aQ.o.trans (HH.o.stt.keeps aF.o ((Ex.refl w6).drewN k)));clear bY cA aH bK
   go_quiet (fail)
   go_wp2_with (go_at_call 181;refine(cI.o _).mono ?_;rintro e w8⟨rfl,bQ,bW⟩;have cP:=Aa bQ;have cV:=Aa ((cU.o _).trans bW);clear bQ bW)
   go_ret;exact⟨rfl,cP.o,cV.o⟩):P:=h
theorem zan{P:Prop}(h:P:=by
 have cF:((s.1:Int)==65536)=true:=by simp;omega
 have aZ:(s.1==65536)=true:=by simp;omega
 have hy:=aB.o;rw[if_pos h0]at hy;subst hy;go_wp2_with fail
 go_ret;exact⟨rfl,bJ.o,aU.o⟩):P:=h
theorem Qf{p m:Nat}{ml:List Int}{l1 l2:List (List Int)}{n A b x0:Nat}{v1 v2:Value}{St:Nat × List Nd->World->Prop}{DM:World->Nat->Prop}(H:SrE p m ml l1 l2 n A b x0 v1 v2 St DM)(p0:Value)
  (hN:∀s w (tl sl:List Int) tv sv side msg mv,St s w->s.2.length<s.1->CO DM w tv tl->CO DM w sv sl->CO DM w mv msg->sl.length=tl.length->tl.length<=64->msg.length<=256->(s.2≠ []->tl≠ [])->Calls Tryz.prog 172 #[.agg #[tv,sv],.int .i64 side,mv,p0] w fun r w'=>(∃t,r= .returned t)/\St (s.1,s.2 ++ [⟨tl,sl,side,msg⟩]) w'/\AO DM w w')
  (s:Nat × List Nd) (w:World) (tl sl:List Int) (tv sv:Value) (X:(Nat × List Nd) × Int) (cB:tl.length<=n) (bO:sl.length=tl.length) (bR:BU tl n=true) (bS:s.2≠ []->tl≠ []) (hs:St s w) (ht:CO DM w tv tl) (bN:CO DM w sv sl)
  (hX:tl.length≠n->∀w' SB bX,WN St DM SB bX A (.func (.func 172) #[] #[p0]) (Zp p m ml l1 l2 s tl sl) w'->CO DM w' tv tl->CO DM w' sv sl->Calls Tryz.prog 181 #[.pointer (some ⟨A,0,none⟩),.agg #[tv,sv],.func (.func 193) #[] #[.pointer (some ⟨SB,0,none⟩),.pointer (some ⟨bX,0,none⟩)]] w' fun r w''=>r= .returned (.int .i64 X.2)/\St X.1 w''/\AO DM w' w''):
  Calls Tryz.prog 142 #[.pointer (some ⟨A,0,none⟩),.agg #[tv,sv],.func (.func 172) #[] #[p0]] w fun r w'=>r= .returned (.int .i64 (WY p m ml l1 l2 n s tl sl X).2)/\St (WY p m ml l1 l2 n s tl sl X).1 w'/\AO DM w w':=by
 have e1:=AJ w (.cells #[.pointer (some ⟨A,0,none⟩)] 186);have s0:(w.alloc (.cells #[.pointer (some ⟨A,0,none⟩)] 186)).cell? ⟨w.heap.size,0,none⟩=some (.pointer (some ⟨A,0,none⟩)):=ag;have bM:(w.alloc (.cells #[.pointer (some ⟨A,0,none⟩)] 186)).heap.size=w.heap.size+1:=ag;obtain⟨b0,b1,e2,bL⟩:=AT (w.alloc (.cells #[.pointer (some ⟨A,0,none⟩)] 186)) tv sv;have e3:=AJ ((w.alloc (.cells #[.pointer (some ⟨A,0,none⟩)] 186)).alloc (.cells #[tv,sv] 71)) (.cells #[.func (.func 172) #[] #[p0]] 190);have n0:(((w.alloc (.cells #[.pointer (some ⟨A,0,none⟩)] 186)).alloc (.cells #[tv,sv] 71)).alloc (.cells #[.func (.func 172) #[] #[p0]] 190)).cell? ⟨w.heap.size+1+1,0,none⟩=some (.func (.func 172) #[] #[p0]):=by
  exact AZ _ _ _ ag
 rw[bM]at b0 b1 bL;replace s0:=(e2.trans e3).cell s0;replace b0:=e3.cell b0;replace b1:=e3.cell b1;have aS:=e1.trans (e2.trans e3);have bJ:=Aa (H.stt.ex _ _ _ hs aS);have aU:=Aa (H.stt.keeps hs aS);have cM:=Aa (ht.keep aU.o);have cJ:=Aa (bN.keep aU.o);obtain⟨SB,bB⟩:∃B,w.heap.size=B:=⟨_,rfl⟩;rw[bB]at s0 b0 b1 n0;have aP:=Aa (fun B (h:SB<=B)=>H.stt.new hs aS (B:=B) ac);obtain⟨cH,cG⟩:=H.c11 _ _ bJ.o;have hle:=H.le _ _ hs;obtain⟨ta,tc,rfl,-,t2,-⟩:=ht.1.open;unfold maxLen at t2;obtain⟨HH,HN,HX,cR,cS,bZ⟩:=To H hN hX bR bS bO;have h64:=H.n64;obtain⟨Y,hY⟩:=nA (WY p m ml l1 l2 n s tl sl X);have bA:=hY;unfold WY at bA;rw[hY];have aB:=Aa bA;clear hs ht bN H hN hX bR bS bO e1 e2 e3 bM bL aS hY bA;go_enter Tryz.func142,Tryz.ntmps142
 go_upto_region 1 with fail
 try simp only[bB]
 clear bB;generalize ((w.alloc (.cells #[.pointer (some ⟨A,0,none⟩)] 186)).alloc (.cells #[.slice ta tl.length tc,sv] 71)).alloc (.cells #[.func (.func 172) #[] #[p0]] 190)=wC at *;by_cases h0:s.1=65536
 .exact zan
 .exact zab
theorem zah{P:Prop}(h:P:=by
 refine(Jd w1 SB aF A _ aG aH (Lq p m ml l1 l2 n d s1 (tl ++ [(j:Int)]) (sl ++ [(c:Int)])).2 (fun w''=>St (Lq p m ml l1 l2 n d s1 (tl ++ [(j:Int)]) (sl ++ [(c:Int)])).1 w''/\AO DM w1 w'') h1.2.1 h1.2.2.1 (fun w2 aI=>?_)).mono ?_
 .have aE:=H.stt.keeps h1.1 aI;refine(ih s1 w2 (tl ++ [(j:Int)]) (sl ++ [(c:Int)]) aG aH (by rw[List.length_append];simp;omega) (by simp[aA]) (Iz aB hj) (fun _=>by simp) (H.stt.ex _ _ _ h1.1 aI) (aK.keep aE) (aM.keep aE)).mono ?_;rintro r w3⟨rfl,h3,h4⟩;exact⟨rfl,h3,aE.trans h4⟩
 .rintro r w3⟨rfl,h3,h4⟩;exact⟨rfl,h1.keep h3 h4,h4⟩):P:=h
theorem QN{p m:Nat}{ml:List Int}{l1 l2:List (List Int)}{n A b x0:Nat}{v1 v2:Value}{St:Nat × List Nd->World->Prop}{DM:World->Nat->Prop}(H:SrE p m ml l1 l2 n A b x0 v1 v2 St DM)(p0:Value)
  (hN:∀s w (tl sl:List Int) tv sv side msg mv,St s w->s.2.length<s.1->CO DM w tv tl->CO DM w sv sl->CO DM w mv msg->sl.length=tl.length->tl.length<=64->msg.length<=256->(s.2≠ []->tl≠ [])->Calls Tryz.prog 172 #[.agg #[tv,sv],.int .i64 side,mv,p0] w fun r w'=>(∃t,r= .returned t)/\St (s.1,s.2 ++ [⟨tl,sl,side,msg⟩]) w'/\AO DM w w'):
  ∀(d:Nat) (s:Nat × List Nd) (w:World) (tl sl:List Int) (tv sv:Value),tl.length+d=n->sl.length=tl.length->BU tl n=true->(s.2≠ []->tl≠ [])->St s w->CO DM w tv tl->CO DM w sv sl->
  Calls Tryz.prog 142 #[.pointer (some ⟨A,0,none⟩),.agg #[tv,sv],.func (.func 172) #[] #[p0]] w fun r w'=>r= .returned (.int .i64 (Lq p m ml l1 l2 n d s tl sl).2)/\St (Lq p m ml l1 l2 n d s tl sl).1 w'/\AO DM w w':=by
 intro d
 induction d with
 | zero=>
  intro s w tl sl tv sv hd aA aB aD hs ht aC;rw[OV];exact Qf H p0 hN s w tl sl tv sv _ ac aA aB aD hs ht aC fun h=>absurd hd ac
 | succ d ih=>
  intro s w tl sl tv sv hd aA aB aD hs ht aC;rw[OW];refine Qf H p0 hN s w tl sl tv sv _ ac aA aB aD hs ht aC fun hn w' SB aF hb aL aN=>?_;have aJ:=H.gf _ _ hb.1;have hq:=aJ.sh.q;have hq2:=aJ.sh.p2;have hN64:=H.n64;have aO:tl.length<=64:=br;refine(SX (WN.stt H.stt SB aF A (.func (.func 172) #[] #[p0])) (Lq p m ml l1 l2 n d) w' A b n (p^m) (Nat.pow_pos ac) hq H.n64 (.pointer (some ⟨SB,0,none⟩)) (.pointer (some ⟨aF,0,none⟩)) tl sl tv sv (fun s1 w1 h1=>⟨(H.pr _ _ h1.1).c0,(H.pr _ _ h1.1).c4,Cr w1 (H.gf _ _ h1.1)⟩) (fun s1 w1 j c aG aH h1 hj hc hc1 hcq aK aM=>?_) aO ac _ hb aL aN).mono ?_
  .exact zah
  .rintro r w3⟨rfl,h3,h4⟩;exact⟨rfl,h3.1,h4⟩
theorem Qe{p m:Nat}{ml:List Int}{l1 l2:List (List Int)}{n A b x0:Nat}{v1 v2:Value}{St:Nat × List Nd->World->Prop}{DM:World->Nat->Prop}(H:SrE p m ml l1 l2 n A b x0 v1 v2 St DM)(p0:Value)
  (hN:∀s w (tl sl:List Int) tv sv side msg mv,St s w->s.2.length<s.1->CO DM w tv tl->CO DM w sv sl->CO DM w mv msg->sl.length=tl.length->tl.length<=64->msg.length<=256->(s.2≠ []->tl≠ [])->Calls Tryz.prog 143 #[.agg #[tv,sv],.int .i64 side,mv,p0] w fun r w'=>(∃t,r= .returned t)/\St (s.1,s.2 ++ [⟨tl,sl,side,msg⟩]) w'/\AO DM w w')
  (s:Nat × List Nd) (w:World) (tl sl:List Int) (tv sv:Value) (X:(Nat × List Nd) × Int) (cB:tl.length<=n) (bO:sl.length=tl.length) (bR:BU tl n=true) (bS:s.2≠ []->tl≠ []) (hs:St s w) (ht:CO DM w tv tl) (bN:CO DM w sv sl)
  (hX:tl.length≠n->∀w' SB bX,WN St DM SB bX A (.func (.func 143) #[] #[p0]) (Zp p m ml l1 l2 s tl sl) w'->CO DM w' tv tl->CO DM w' sv sl->Calls Tryz.prog 181 #[.pointer (some ⟨A,0,none⟩),.agg #[tv,sv],.func (.func 193) #[] #[.pointer (some ⟨SB,0,none⟩),.pointer (some ⟨bX,0,none⟩)]] w' fun r w''=>r= .returned (.int .i64 X.2)/\St X.1 w''/\AO DM w' w''):
  Calls Tryz.prog 142 #[.pointer (some ⟨A,0,none⟩),.agg #[tv,sv],.func (.func 143) #[] #[p0]] w fun r w'=>r= .returned (.int .i64 (WY p m ml l1 l2 n s tl sl X).2)/\St (WY p m ml l1 l2 n s tl sl X).1 w'/\AO DM w w':=by
 have e1:=AJ w (.cells #[.pointer (some ⟨A,0,none⟩)] 186);have s0:(w.alloc (.cells #[.pointer (some ⟨A,0,none⟩)] 186)).cell? ⟨w.heap.size,0,none⟩=some (.pointer (some ⟨A,0,none⟩)):=ag;have bM:(w.alloc (.cells #[.pointer (some ⟨A,0,none⟩)] 186)).heap.size=w.heap.size+1:=ag;obtain⟨b0,b1,e2,bL⟩:=AT (w.alloc (.cells #[.pointer (some ⟨A,0,none⟩)] 186)) tv sv;have e3:=AJ ((w.alloc (.cells #[.pointer (some ⟨A,0,none⟩)] 186)).alloc (.cells #[tv,sv] 71)) (.cells #[.func (.func 143) #[] #[p0]] 190);have n0:(((w.alloc (.cells #[.pointer (some ⟨A,0,none⟩)] 186)).alloc (.cells #[tv,sv] 71)).alloc (.cells #[.func (.func 143) #[] #[p0]] 190)).cell? ⟨w.heap.size+1+1,0,none⟩=some (.func (.func 143) #[] #[p0]):=by
  exact AZ _ _ _ ag
 rw[bM]at b0 b1 bL;replace s0:=(e2.trans e3).cell s0;replace b0:=e3.cell b0;replace b1:=e3.cell b1;have aS:=e1.trans (e2.trans e3);have bJ:=Aa (H.stt.ex _ _ _ hs aS);have aU:=Aa (H.stt.keeps hs aS);have cM:=Aa (ht.keep aU.o);have cJ:=Aa (bN.keep aU.o);obtain⟨SB,bB⟩:∃B,w.heap.size=B:=⟨_,rfl⟩;rw[bB]at s0 b0 b1 n0;have aP:=Aa (fun B (h:SB<=B)=>H.stt.new hs aS (B:=B) ac);obtain⟨cH,cG⟩:=H.c11 _ _ bJ.o;have hle:=H.le _ _ hs;obtain⟨ta,tc,rfl,-,t2,-⟩:=ht.1.open;unfold maxLen at t2;obtain⟨HH,HN,HX,cR,cS,bZ⟩:=To H hN hX bR bS bO;have h64:=H.n64;obtain⟨Y,hY⟩:=nA (WY p m ml l1 l2 n s tl sl X);have bA:=hY;unfold WY at bA;rw[hY];have aB:=Aa bA;clear hs ht bN H hN hX bR bS bO e1 e2 e3 bM bL aS hY bA;go_enter Tryz.func142,Tryz.ntmps142
 go_upto_region 1 with fail
 try simp only[bB]
 clear bB;generalize ((w.alloc (.cells #[.pointer (some ⟨A,0,none⟩)] 186)).alloc (.cells #[.slice ta tl.length tc,sv] 71)).alloc (.cells #[.func (.func 143) #[] #[p0]] 190)=wC at *;by_cases h0:s.1=65536
 .exact zan
 .exact zab
theorem QM{p m:Nat}{ml:List Int}{l1 l2:List (List Int)}{n A b x0:Nat}{v1 v2:Value}{St:Nat × List Nd->World->Prop}{DM:World->Nat->Prop}(H:SrE p m ml l1 l2 n A b x0 v1 v2 St DM)(p0:Value)
  (hN:∀s w (tl sl:List Int) tv sv side msg mv,St s w->s.2.length<s.1->CO DM w tv tl->CO DM w sv sl->CO DM w mv msg->sl.length=tl.length->tl.length<=64->msg.length<=256->(s.2≠ []->tl≠ [])->Calls Tryz.prog 143 #[.agg #[tv,sv],.int .i64 side,mv,p0] w fun r w'=>(∃t,r= .returned t)/\St (s.1,s.2 ++ [⟨tl,sl,side,msg⟩]) w'/\AO DM w w'):
  ∀(d:Nat) (s:Nat × List Nd) (w:World) (tl sl:List Int) (tv sv:Value),tl.length+d=n->sl.length=tl.length->BU tl n=true->(s.2≠ []->tl≠ [])->St s w->CO DM w tv tl->CO DM w sv sl->
  Calls Tryz.prog 142 #[.pointer (some ⟨A,0,none⟩),.agg #[tv,sv],.func (.func 143) #[] #[p0]] w fun r w'=>r= .returned (.int .i64 (Lq p m ml l1 l2 n d s tl sl).2)/\St (Lq p m ml l1 l2 n d s tl sl).1 w'/\AO DM w w':=by
 intro d
 induction d with
 | zero=>
  intro s w tl sl tv sv hd aA aB aD hs ht aC;rw[OV];exact Qe H p0 hN s w tl sl tv sv _ ac aA aB aD hs ht aC fun h=>absurd hd ac
 | succ d ih=>
  intro s w tl sl tv sv hd aA aB aD hs ht aC;rw[OW];refine Qe H p0 hN s w tl sl tv sv _ ac aA aB aD hs ht aC fun hn w' SB aF hb aL aN=>?_;have aJ:=H.gf _ _ hb.1;have hq:=aJ.sh.q;have hq2:=aJ.sh.p2;have hN64:=H.n64;have aO:tl.length<=64:=br;refine(SX (WN.stt H.stt SB aF A (.func (.func 143) #[] #[p0])) (Lq p m ml l1 l2 n d) w' A b n (p^m) (Nat.pow_pos ac) hq H.n64 (.pointer (some ⟨SB,0,none⟩)) (.pointer (some ⟨aF,0,none⟩)) tl sl tv sv (fun s1 w1 h1=>⟨(H.pr _ _ h1.1).c0,(H.pr _ _ h1.1).c4,Cr w1 (H.gf _ _ h1.1)⟩) (fun s1 w1 j c aG aH h1 hj hc hc1 hcq aK aM=>?_) aO ac _ hb aL aN).mono ?_
  .exact zah
  .rintro r w3⟨rfl,h3,h4⟩;exact⟨rfl,h3.1,h4⟩
def FR(e1 e2:Int)(aA:Bool)(n n':Int)(tl sl:List Int)(q:Nat):Int:=
 if e1≠0 then e1 else if e2≠0 then e2 else if aA=false∨n≠n' then 10 else if tl.length≠sl.length∨n<tl.length then 3 else if FE tl n≠0 then FE tl n else H4 q sl
structure AU where
 p:Int
 m:Int
 ml:List Int
 n:Int
 rows:List (List Int)
def AU.arg(c:AU)(mv gv:Value):Value:= .agg #[.int .i64 c.p,.int .i64 c.m,mv,.int .i64 c.n,gv]
def AU.obj(c:AU)(mv gv:Value):Obj:= .cells #[.int .i64 c.p,.int .i64 c.m,mv,.int .i64 c.n,gv] 39
structure AU.at(c:AU)(w:World)(mv gv:Value):Prop where
 m:Am w mv c.ml
 g:BO w gv c.rows
theorem AU.at.ex{c:AU}{w w':World}{mv gv:Value}(h:c.at w mv gv)(hx:Ex w w'):c.at w' mv gv:=⟨h.m.ex hx,h.g.ex hx⟩
def StO(c d:AU)(tl sl:List Int)(v1 v2:Value)(w:World)(r:Ending)(w':World):Prop:=
 ∃e1 e2:Int,BN c.p c.m c.ml c.n c.rows e1/\(e1=0->BN d.p d.m d.ml d.n d.rows e2)/\
  ((FR e1 e2 (CR c.p c.m c.ml d.p d.m d.ml) c.n d.n tl sl (c.p.toNat^c.m.toNat)≠0/\∃ptr:Option Addr,r= .returned (.tuple #[.pointer ptr,.int .i64 (FR e1 e2 (CR c.p c.m c.ml d.p d.m d.ml) c.n d.n tl sl (c.p.toNat^c.m.toNat))]))∨
  (FR e1 e2 (CR c.p c.m c.ml d.p d.m d.ml) c.n d.n tl sl (c.p.toNat^c.m.toNat)=0/\∃(w2:World) (A b x0 pn mn nn:Nat),c.p=pn/\c.m=mn/\c.n=nn/\r= .returned (.tuple #[.pointer (some ⟨A,0,none⟩),.int .i64 0])/\Ex w w2/\A9 w2 b pn mn c.ml x0/\1<=x0/\x0<pn^mn/\w2.heap.size<=A/\Ex w2 w'/\LK w' A b nn v1 v2/\w'.cell? ⟨A,11,none⟩=some (.int .i64 0)/\w'.frozen? ⟨A,11,none⟩=false))
theorem Du{p m:Int}{ml:List Int}{n:Int}{rows:List (List Int)}(h:BN p m ml n rows 0):EG p m ml/\1<=n/\n<=64:=by
 rcases h with⟨_,h⟩|⟨_,h1,h2⟩|⟨h1,h2,h3⟩
 .cases h
 .exact absurd h2.symm h1
 .refine⟨?_,?_⟩
  .rcases h3 with⟨h3,h4⟩|⟨_,pn,mn,N,piv,a',_,_,_,h,_⟩
   .exact absurd h4.symm h3
   .exact h
  .unfold Ec at h2;split at h2
   .cases h2
   .omega
theorem C6(w:World)(c:AU)(mv gv:Value):(w.alloc (c.obj mv gv)).cell? ⟨w.heap.size,0,none⟩=some (.int .i64 c.p)/\(w.alloc (c.obj mv gv)).cell? ⟨w.heap.size,1,none⟩=some (.int .i64 c.m)/\(w.alloc (c.obj mv gv)).cell? ⟨w.heap.size,2,none⟩=some mv/\(w.alloc (c.obj mv gv)).cell? ⟨w.heap.size,3,none⟩=some (.int .i64 c.n)/\(w.alloc (c.obj mv gv)).cell? ⟨w.heap.size,4,none⟩=some gv:=
 ⟨by simp[AU.obj],by simp[AU.obj],by simp[AU.obj],by simp[AU.obj],by simp[AU.obj]⟩
theorem F6{c d:AU}{tl sl:List Int}{v1 v2:Value}{w w':World}{e1 e2 E:Int}(h1:BN c.p c.m c.ml c.n c.rows e1)(h2:e1=0->BN d.p d.m d.ml d.n d.rows e2)(hE:FR e1 e2 (CR c.p c.m c.ml d.p d.m d.ml) c.n d.n tl sl (c.p.toNat^c.m.toNat)=E)(h:E≠0)(aA:Option Addr):
  StO c d tl sl v1 v2 w (.returned (.tuple #[.pointer aA,.int .i64 E])) w':=
 ⟨e1,e2,h1,h2,.inl ⟨by rw[hE];exact h,aA,by rw[hE]⟩⟩
theorem za9{P:Prop}(h:P:=by
 go_wp2_with (go_at_call 191;refine aG.o.mono ?_;rintro e w4⟨rfl,aC⟩;have aB:=Aa (aE.o.trans aC);clear c0 c1 c2 c3 c4 d0 d1 d2 d3 d4 b0 b1;obtain⟨c0,c1,c2,c3,c4,d0,d1,d2,d3,d4,b0,b1⟩:=aA.o w4 aB.o;clear aC)
 go_ret2;exact⟨F6 aD.o (fun _=>aF.o) HE.o (by decide) _,HX.o.trans aB.o⟩):P:=h
theorem cw{P:Prop}(h:P:=by simpa using h1):P:=h
theorem It(w:World)(c d:AU)(m1 m2 v1 v2:Value)(hc:c.at w m1 v1)(hd:d.at w m2 v2)(tl sl:List Int)(tv sv:Value)(ht:Am w tv tl)(hs:Am w sv sl):
  Calls Tryz.prog 141 #[c.arg m1 v1,d.arg m2 v2,.agg #[tv,sv]] w fun r w'=>StO c d tl sl v1 v2 w r w'/\Ex w w':=by
 obtain⟨c0,c1,c2,c3,c4⟩:=C6 w c m1 v1;obtain⟨d0,d1,d2,d3,d4⟩:=C6 (w.alloc (c.obj m1 v1)) d m2 v2;obtain⟨b0,b1,e3,-⟩:=AT ((w.alloc (c.obj m1 v1)).alloc (d.obj m2 v2)) tv sv;have aW:(w.alloc (c.obj m1 v1)).heap.size=w.heap.size+1:=ag;have aV:((w.alloc (c.obj m1 v1)).alloc (d.obj m2 v2)).heap.size=w.heap.size+1+1:=ag;have e1:=AJ w (c.obj m1 v1);have e2:=AJ (w.alloc (c.obj m1 v1)) (d.obj m2 v2);rw[aW]at d0 d1 d2 d3 d4;rw[aV]at b0 b1;have aX:=e1.trans (e2.trans e3);replace c0:=(e2.trans e3).cell c0;replace c1:=(e2.trans e3).cell c1;replace c2:=(e2.trans e3).cell c2;replace c3:=(e2.trans e3).cell c3;replace c4:=(e2.trans e3).cell c4;replace d0:=e3.cell d0;replace d1:=e3.cell d1;replace d2:=e3.cell d2;replace d3:=e3.cell d3;replace d4:=e3.cell d4;obtain⟨B,hB⟩:=nA w.heap.size;rw[hB]at c0 c1 c2 c3 c4 d0 d1 d2 d3 d4 b0 b1;obtain⟨ta,tc,rfl,-,t2,-⟩:=ht.open;obtain⟨sa,sc,rfl,-,s2,-⟩:=hs.open;obtain⟨x1,y1,rfl,-,z1,-⟩:=hc.g.open;obtain⟨x2,y2,rfl,-,z2,-⟩:=hd.g.open;obtain⟨x3,y3,rfl,-,z3,-⟩:=hc.m.open;obtain⟨x4,y4,rfl,-,z4,-⟩:=hd.m.open;unfold maxLen at t2 s2 z1 z2 z3 z4;obtain⟨HX,HC,HD,HT,HS⟩:=Of aX hc hd ht hs;clear hc hd ht hs e1 e2 e3 aW aV aX;unfold AU.arg;go_enter Tryz.func141,Tryz.ntmps141
 unfold AU.obj at c0 c1 c2 c3 c4 d0 d1 d2 d3 d4 b0 b1 HX;go_upto_region 1 with fail
 try simp only[hB]
 clear hB;generalize ((w.alloc (.cells #[.int .i64 c.p,.int .i64 c.m,.slice x3 c.ml.length y3,.int .i64 c.n,.slice x1 c.rows.length y1] 39)).alloc (.cells #[.int .i64 d.p,.int .i64 d.m,.slice x4 d.ml.length y4,.int .i64 d.n,.slice x2 d.rows.length y2] 39)).alloc (.cells #[.slice ta tl.length tc,.slice sa sl.length sc] 71)=w1 at *;have aA:=Aa (fun w' (h:Ex w1 w')=>(⟨h.cell c0,h.cell c1,h.cell c2,h.cell c3,h.cell c4,h.cell d0,h.cell d1,h.cell d2,h.cell d3,h.cell d4,h.cell b0,h.cell b1⟩:_/\_/\_/\_/\_/\_/\_/\_/\_/\_/\_/\_));have aL:=Aa (CZ w1 c.p c.m c.ml _ (HC.o.m.ex HX.o) c.n c.rows _ (HC.o.g.ex HX.o));go_wp2_with fail
 refine aL.o.mono ?_;rintro e w2⟨⟨e1,rfl,bA⟩,aQ⟩;clear c0 c1 c2 c3 c4 d0 d1 d2 d3 d4 b0 b1 aL;obtain⟨c0,c1,c2,c3,c4,d0,d1,d2,d3,d4,b0,b1⟩:=aA.o w2 aQ;have aJ:=Aa aQ;have aD:=Aa bA;clear aQ bA;by_cases h1:e1=0
 .have k1:(e1==0)=true:=by simpa using h1
  have HF:=Aa (Du (h1 ▸ aD.o));have aL:=Aa (CZ w2 d.p d.m d.ml _ (HD.o.m.ex (HX.o.trans aJ.o)) d.n d.rows _ (HD.o.g.ex (HX.o.trans aJ.o)));have H1:=Aa h1;subst h1;go_wp2_with fail
  refine aL.o.mono ?_;rintro e w3⟨⟨e2,rfl,aZ⟩,aP⟩;clear c0 c1 c2 c3 c4 d0 d1 d2 d3 d4 b0 b1 aL;obtain⟨c0,c1,c2,c3,c4,d0,d1,d2,d3,d4,b0,b1⟩:=aA.o w3 (aJ.o.trans aP);have aE:=Aa (aJ.o.trans aP);have aF:=Aa aZ;clear aP aZ aJ;by_cases h2:e2=0
  .have k2:(e2==0)=true:=by simpa using h2
   have aG:=Aa (Ux w3 c.p c.m c.ml _ (HC.o.m.ex (HX.o.trans aE.o)) d.p d.m d.ml _ (HD.o.m.ex (HX.o.trans aE.o)));obtain⟨Sm,aR⟩:∃b,CR c.p c.m c.ml d.p d.m d.ml=b:=⟨_,rfl⟩;rw[aR]at aG;have aN:=Aa aR;subst h2;clear aR
   cases Sm with
   | false=>
    have HE:=Aa (show FR 0 0 (CR c.p c.m c.ml d.p d.m d.ml) c.n d.n tl sl (c.p.toNat^c.m.toNat)=10 from by
     unfold FR;rw[if_neg ae,if_neg ae,if_pos (.inl aN.o)])
    exact za9
   | true=>
    by_cases hn:c.n=d.n
    .have k3:(c.n !=d.n)=false:=by simp[hn]
     by_cases hl:tl.length=sl.length
     .have k4:((tl.length:Int) !=(sl.length:Int))=false:=by simp;omega
      have bG:(tl.length !=sl.length)=false:=aq;by_cases hg:c.n<tl.length
      .have k5:decide ((tl.length:Int) > c.n)=true:=by simpa using hg
       have bF:decide (c.n<(tl.length:Int))=true:=by simpa using hg
       have HE:=Aa (show FR 0 0 (CR c.p c.m c.ml d.p d.m d.ml) c.n d.n tl sl (c.p.toNat^c.m.toNat)=3 from by
        unfold FR;rw[if_neg ae,if_neg ae,if_neg (by rw[aN.o];simp[hn]),if_pos (.inr hg)])
       have bJ:=Aa hl;clear hn hl hg;exact za9
      .have k5:decide ((tl.length:Int) > c.n)=false:=by simpa using hg
       have bF:decide (c.n<(tl.length:Int))=false:=by simpa using hg
       have HE:=Aa (show FR 0 0 (CR c.p c.m c.ml d.p d.m d.ml) c.n d.n tl sl (c.p.toNat^c.m.toNat)=if FE tl c.n≠0 then FE tl c.n else H4 (c.p.toNat^c.m.toNat) sl from by
        unfold FR;rw[if_neg ae,if_neg ae,if_neg (by rw[aN.o];simp[hn]),if_neg ac])
       have aU:=Aa (fun w' (h:Ex w1 w')=>GP w' tl _ c.n (HT.o.ex (HX.o.trans h)));obtain⟨I,hI⟩:=nA (FE tl c.n);rw[hI]at aU HE;have bJ:=Aa hl;clear hn hl hg hI;by_cases hi0:I=0
       .have k6:(I !=0)=false:=by simp[hi0]
        have bE:(I==0)=true:=by simp[hi0]
        have bH:=Aa (fun w' (h:Ex w1 w')=>FM c.p c.m c.ml _ w' (HC.o.m.ex (HX.o.trans h)));have aH:=HE.o;rw[if_neg (by simp[hi0])]at aH;have HE:=Aa aH;subst hi0;clear aH;go_wp2_with (first|(go_at_call 191;refine aG.o.mono ?_;rintro e w4⟨rfl,aC⟩;have aB:=Aa (aE.o.trans aC);clear c0 c1 c2 c3 c4 d0 d1 d2 d3 d4 b0 b1;obtain⟨c0,c1,c2,c3,c4,d0,d1,d2,d3,d4,b0,b1⟩:=aA.o w4 aB.o;clear aC)|(go_at_call 150;refine(aU.o _ aB.o).mono ?_;rintro e w5⟨rfl,aK⟩;have aI:=Aa (aB.o.trans aK);clear c0 c1 c2 c3 c4 d0 d1 d2 d3 d4 b0 b1;obtain⟨c0,c1,c2,c3,c4,d0,d1,d2,d3,d4,b0,b1⟩:=aA.o w5 aI.o;clear aK))
        refine(bH.o _ aI.o).mono ?_;rintro e w6⟨ho,aY⟩;clear c0 c1 c2 c3 c4 d0 d1 d2 d3 d4 b0 b1;have aT:=Aa (aI.o.trans aY);obtain⟨c0,c1,c2,c3,c4,d0,d1,d2,d3,d4,b0,b1⟩:=aA.o w6 aT.o;clear aY;rcases ho with⟨pn,mn,x0,b,hp,hm,rfl,hgf,hx01,hx02⟩|⟨hnf,_⟩
        .have bD:=Aa (Jo w6 hgf sl _ (HS.o.ex (HX.o.trans aT.o)));have HG:=Aa hgf;obtain⟨Fc,aS⟩:∃F,H4 (pn^mn) sl=F:=⟨_,rfl⟩;rw[aS]at bD;have bC:=Aa (show c.p=pn/\c.m=mn from⟨hp,hm⟩);have HE:=Aa (show FR 0 0 (CR c.p c.m c.ml d.p d.m d.ml) c.n d.n tl sl (c.p.toNat^c.m.toNat)=Fc from by
          rw[HE.o,hp,hm,<-aS];rfl)
         have bB:=Aa (show 1<=x0/\x0<pn^mn from⟨hx01,hx02⟩);clear hgf aS hp hm hx01 hx02;go_wp2_with fail
         refine bD.o.mono ?_;rintro e w7⟨rfl,aO⟩;clear c0 c1 c2 c3 c4 d0 d1 d2 d3 d4 b0 b1;have aM:=Aa (aT.o.trans aO);have bK:=Aa (HG.o.ex aO);obtain⟨c0,c1,c2,c3,c4,d0,d1,d2,d3,d4,b0,b1⟩:=aA.o w7 aM.o;clear aO;go_wp2_with fail
         go_ret2;by_cases hf0:Fc=0
         .subst hf0;refine⟨⟨0,0,aD.o,fun _=>aF.o,.inr ⟨HE.o,w7,w7.heap.size,b,x0,pn,mn,c.n.toNat,bC.o.1,bC.o.2,by have:=HF.o.2.1;omega,rfl,HX.o.trans aM.o,bK.o,bB.o.1,bB.o.2,Nat.le_refl _,AJ w7 _,⟨ag,?_,ag,ag⟩,ag,ag⟩⟩,(HX.o.trans aM.o).alloc _⟩;have:((c.n.toNat:Nat):Int)=c.n:=by have:=HF.o.2.1;omega
          rw[this];simp
         .exact⟨F6 aD.o (fun _=>aF.o) HE.o hf0 _,(HX.o.trans aM.o).alloc _⟩
        .exact absurd HF.o.1 hnf
       .have k6:(I !=0)=true:=by simpa using hi0
        have bE:(I==0)=false:=by simpa using hi0
        have aH:=HE.o;rw[if_pos hi0]at aH;have HE:=Aa aH;have bI:=Aa hi0;clear aH hi0;go_wp2_with (first|(go_at_call 191;refine aG.o.mono ?_;rintro e w4⟨rfl,aC⟩;have aB:=Aa (aE.o.trans aC);clear c0 c1 c2 c3 c4 d0 d1 d2 d3 d4 b0 b1;obtain⟨c0,c1,c2,c3,c4,d0,d1,d2,d3,d4,b0,b1⟩:=aA.o w4 aB.o;clear aC)|(go_at_call 150;refine(aU.o _ aB.o).mono ?_;rintro e w5⟨rfl,aK⟩;have aI:=Aa (aB.o.trans aK);clear c0 c1 c2 c3 c4 d0 d1 d2 d3 d4 b0 b1;obtain⟨c0,c1,c2,c3,c4,d0,d1,d2,d3,d4,b0,b1⟩:=aA.o w5 aI.o;clear aK))
        go_ret2;exact⟨F6 aD.o (fun _=>aF.o) HE.o bI.o _,HX.o.trans aI.o⟩
     .have k4:((tl.length:Int) !=(sl.length:Int))=true:=by simp;omega
      have bG:(tl.length !=sl.length)=true:=aq;have HE:=Aa (show FR 0 0 (CR c.p c.m c.ml d.p d.m d.ml) c.n d.n tl sl (c.p.toNat^c.m.toNat)=3 from by
       unfold FR;rw[if_neg ae,if_neg ae,if_neg (by rw[aN.o];simp[hn]),if_pos (.inl hl)])
      clear hn hl;exact za9
    .have k3:(c.n !=d.n)=true:=by simpa using hn
     have HE:=Aa (show FR 0 0 (CR c.p c.m c.ml d.p d.m d.ml) c.n d.n tl sl (c.p.toNat^c.m.toNat)=10 from by
      unfold FR;rw[if_neg ae,if_neg ae,if_pos (.inr hn)])
     clear hn;exact za9
  .have k2:(e2==0)=false:=by simpa using h2
   have k2':(e2 !=0)=true:=by simpa using h2
   have HE:=Aa (show FR 0 e2 (CR c.p c.m c.ml d.p d.m d.ml) c.n d.n tl sl (c.p.toNat^c.m.toNat)=e2 from by
    unfold FR;rw[if_neg ae,if_pos h2])
   have HI:=Aa h2;clear h2;go_wp2_with fail
   go_ret2;exact⟨F6 aD.o (fun _=>aF.o) HE.o HI.o _,HX.o.trans aE.o⟩
 .have k1:(e1==0)=false:=by simpa using h1
  have k1':(e1 !=0)=true:=cw;have HE:=Aa (show FR e1 0 (CR c.p c.m c.ml d.p d.m d.ml) c.n d.n tl sl (c.p.toNat^c.m.toNat)=e1 from by
   unfold FR;rw[if_pos h1])
  have HI:=Aa h1;clear h1;go_wp2_with fail
  go_ret2;exact⟨F6 aD.o (fun h=>absurd h HI.o) HE.o HI.o _,HX.o.trans aJ.o⟩
end Go.Proofs.YtehieobniamagaaGreat
