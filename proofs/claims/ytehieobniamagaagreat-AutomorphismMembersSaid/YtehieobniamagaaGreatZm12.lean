/- Walk of equivalence.Inverse. -/
import Derived.Test.YtehieobniamagaaGreatZm11
namespace Go.Proofs.YtehieobniamagaaGreat
open Go.RowKit
set_option linter.all false
set_option maxRecDepth 100000
set_option maxHeartbeats 4000000
theorem fac_at{q:Nat}{l:List Int}(h:EO q l=0){i:Nat}(hi:i<l.length):∃z:Nat,l.getD i 0=(z:Int)/\1<=z/\z<q:=by
 unfold EO at h;split at h
 .cases h
 rename_i h1;split at h
 .cases h
 rename_i h2;have hm:l.getD i 0∈l:=dn;have ha:Gb q (l.getD i 0)=true:=by
  cases hb:Gb q (l.getD i 0) with
  | true=>rfl
  | false=>exact absurd (List.any_eq_true.2 ⟨_,hm,by rw[hb];rfl⟩) h1
 have hz:l.getD i 0≠0:=fun e=>h2 (List.contains_iff_mem.2 (e ▸ hm));clear hm;generalize l.getD i 0=z at *;unfold Gb at ha;simp at ha;exact⟨z.toNat,ac,ac,ac⟩
def ivS(p m:Nat)(ml sl:List Int)(bk i:Nat):Int:=((S2 p m (lw ml) (D7 p m ml (Au (p^m) (sl.getD i 0))) bk:Nat):Int)
structure CN where
 perm:List Int
 scale:List Int
 frob:Int
def MoR(M:CN)(e:Int)(r:Ending)(w':World):Prop:=∃u v,r= .returned (.tuple #[.agg #[u,v,.int .i64 M.frob],.int .i64 e])/\Aj w' u M.perm/\Aj w' v M.scale
structure Z7(w:World)(b:Nat):Prop where
 c0:w.cell? ⟨b,0,none⟩=some (.slice none 0 0)
 c1:w.cell? ⟨b,1,none⟩=some (.slice none 0 0)
 c2:w.cell? ⟨b,2,none⟩=some (.int .i64 0)
 f0:w.frozen? ⟨b,0,none⟩=false
 f1:w.frozen? ⟨b,1,none⟩=false
 f2:w.frozen? ⟨b,2,none⟩=false
theorem Z7.new(w:World):Z7 (w.alloc (.cells #[.slice none 0 0,.slice none 0 0,.int .i64 0] 26)) w.heap.size:=⟨ag,ag,ag,ag,ag,ag⟩
theorem Z7.ex{w w':World}{b:Nat}(h:Z7 w b)(hx:Ex w w'):Z7 w' b:=⟨hx.cell h.c0,hx.cell h.c1,hx.cell h.c2,hx.frz h.c0 h.f0,hx.frz h.c1 h.f1,hx.frz h.c2 h.f2⟩
theorem Ch{w0 w:World}{q:Nat}(hx:Ex w0 w)(hq:w0.heap.size<=q)(u v z:Value):Ex w0 (((w.setCell ⟨q,0,none⟩ u).setCell ⟨q,1,none⟩ v).setCell ⟨q,2,none⟩ z):=
 ((hx.setCell (p:=⟨q,0,none⟩) hq _).setCell (p:=⟨q,1,none⟩) hq _).setCell (p:=⟨q,2,none⟩) hq _
theorem Fg{w:World}{q:Nat}{v:Value}{l:List Int}(h:Aj w v l)(hq:∀B,v.ownBlock=some B->B≠q)(a b c:Value):Aj (((w.setCell ⟨q,0,none⟩ a).setCell ⟨q,1,none⟩ b).setCell ⟨q,2,none⟩ c) v l:=
 Sl.other (Sl.other (Sl.other h (fun B e=>hq B e) _) (fun B e=>hq B e) _) (fun B e=>hq B e) _
structure Tw where
 R:Nat->Nat->Option (Nat->Nat)
 g:Nat->List (Nat->Nat)
def DI(n:Nat)(R:Nat->Nat->Option (Nat->Nat)):Nat->Nat->(Nat->Nat)->(Nat->Nat) × Nat
 | 0,b,f=>(f,b)
 | k+1,b,f=>match R b (f b) with
  | none=>(f,b)
  | some r=>DI n R k (b+1) (Aq f (A7 n r))
def Sf(n:Nat)(R:Nat->Nat->Option (Nat->Nat)):Nat->Nat->(Nat->Nat)->Prop
 | 0,_,_=>True
 | k+1,b,f=>∃r,R b (f b)=some r/\Sf n R k (b+1) (Aq f (A7 n r))
theorem Mn(n:Nat)(R:Nat->Nat->Option (Nat->Nat)):∀k b f,b<=(DI n R k b f).2/\(DI n R k b f).2<=b+k
 | 0,b,f=>⟨Nat.le_refl _,Nat.le_refl _⟩
 | k+1,b,f=>by
  unfold DI;split
  .exact⟨Nat.le_refl _,by dsimp only;omega⟩
  .have:=Mn n R k (b+1) (Aq f (A7 n ‹_›));omega
theorem QL(n:Nat)(R:Nat->Nat->Option (Nat->Nat)):∀k b f,Sf n R k b f↔(DI n R k b f).2=b+k
 | 0,b,f=>⟨fun _=>rfl,fun _=>trivial⟩
 | k+1,b,f=>by
  unfold DI Sf
  cases h:R b (f b) with
  | none=>exact⟨fun ⟨r,h1,_⟩=>by exact(nomatch h1),fun h1=>by have h1:b=b+(k+1):=h1;omega⟩
  | some r=>
   dsimp only;rw[show b+(k+1)=b+1+k by omega,<-QL n R k (b+1)];exact⟨fun ⟨r',h1,h2⟩=>by injection h1 with h1;subst h1;exact h2,fun h=>⟨r,rfl,h⟩⟩
theorem Sf.mono{n:Nat}{R R':Nat->Nat->Option (Nat->Nat)}(hR:∀b x r,R b x=some r->R' b x=some r):∀ {k b f},Sf n R k b f->Sf n R' k b f
 | 0,_,_,_=>trivial
 | k+1,b,f,⟨r,h1,h2⟩=>⟨r,hR _ _ _ h1,h2.mono hR⟩
theorem Sf.congr{n c:Nat}{R R':Nat->Nat->Option (Nat->Nat)}(hR:∀b x,c<=b->R b x=R' b x):∀ {k b f},c<=b->Sf n R k b f->Sf n R' k b f
 | 0,_,_,_,_=>trivial
 | k+1,b,f,hb,⟨r,h1,h2⟩=>⟨r,by rw[<-hR b _ hb];exact h1,h2.congr hR (by omega)⟩
structure CU(n:Nat)(t:Tw):Prop where
 rep:∀b x r,t.R b x=some r->b<n/\x<n/\Bd n r/\AX b r/\r b=x
 one:∀b,b<n->t.R b b=some Ej
 gen:∀b h,h∈t.g b->Bd n h/\AX b h
theorem U5{n:Nat}{t:Tw}(hG:CU n t):∀k b,b+k<=n->Sf n t.R k b Ej
 | 0,_,_=>trivial
 | k+1,b,h=>⟨Ej,hG.one b (by omega),by rw[NU];exact U5 hG k (b+1) (by omega)⟩
def FA(n:Nat)(R:Nat->Nat->Option (Nat->Nat))(b:Nat)(q:Nat->Nat):Prop:=
 ∃r,R b (q b)=some r/\Sf n R (n-(b+1)) (b+1) (Aq q (A7 n r))
theorem FA.mono{n b:Nat}{R R':Nat->Nat->Option (Nat->Nat)}(hR:∀b x r,R b x=some r->R' b x=some r){q:Nat->Nat}(h:FA n R b q):FA n R' b q:=by
 obtain⟨r,h1,h2⟩:=h;exact⟨r,hR _ _ _ h1,h2.mono hR⟩
theorem FA.congr{n b:Nat}{R R':Nat->Nat->Option (Nat->Nat)}(hR:∀c x,b<=c->R c x=R' c x){q:Nat->Nat}(h:FA n R b q):FA n R' b q:=by
 obtain⟨r,h1,h2⟩:=h;exact⟨r,by rw[<-hR b _ (Nat.le_refl _)];exact h1,h2.congr hR ac⟩
structure DF(n:Nat)(t:Tw)(c:Nat):Prop where
 done:∀x r,t.R c x=some r->∀h∈t.g c,FA n t.R c (Aq r h)
 rep:∀c' x r,c<=c'->t.R c' x=some r->Gn (t.g c) r
 gen:∀c' h,c<=c'->h∈t.g c'->Gn (t.g c) h
theorem DF.congr{n c:Nat}{t t':Tw}(h:DF n t c)(hR:∀b x,c<=b->t.R b x=t'.R b x)(hg:∀b,c<=b->t.g b=t'.g b):DF n t' c:=
 ⟨fun x r hr k hk=>(h.done x r (by rw[hR _ _ (Nat.le_refl _)];exact hr) k (by rw[hg _ (Nat.le_refl _)];exact hk)).congr hR,
 fun c' x r hc hr=>by rw[<-hg _ (Nat.le_refl _)];exact h.rep c' x r hc (by rw[hR _ _ hc];exact hr),
 fun c' k hc hk=>by rw[<-hg _ (Nat.le_refl _)];exact h.gen c' k hc (by rw[hg _ hc];exact hk)⟩
theorem U4{n:Nat}{t:Tw}{H:(Nat->Nat)->Prop}(hG:CU n t)(hH:Xl n H):∀k b f,b+k=n->(∀c x r,b<=c->t.R c x=some r->H r)->Bd n f->AX b f->Sf n t.R k b f->H f
 | 0,b,f,hb,_,hP,hF,_=>by
  have:b=n:=ac;subst this;rw[hF.all hP];exact hH.one
 | k+1,b,f,hb,hr,hP,hF,⟨r,h1,h2⟩=>by
  obtain⟨_,_,h3,h4,h5⟩:=hG.rep _ _ _ h1;have:=U4 hG hH k (b+1) (Aq f (A7 n r)) ac (fun c x r' hc=>hr c x r' ac) (hP.comp h3.inv) (hF.div h3 h4 h5) h2;have h6:=hH.mul _ _ this (hr _ _ _ (Nat.le_refl _) h1)
  rwa[h3.cancel]at h6
theorem U6{n:Nat}{t:Tw}(hG:CU n t):∀k b,b+(k+1)=n->(∀c,b<=c->c<n->DF n t c)->∀f,Bd n f->AX b f->(Sf n t.R (k+1) b f↔Gn (t.g b) f)
 | k,b,hb,hC,f,hP,hF=>by
  have aG:Xl n (Gn (t.g b)):=Gn.grp fun s hs=>(hG.gen _ _ hs).1;refine⟨fun h=>U4 hG aG (k+1) b f hb (fun c x r hc hr=>(hC b (Nat.le_refl _) ac).rep c x r hc hr) hP hF h,fun h=>?_⟩;clear hF hP
  induction h with
  | one=>exact U5 hG _ _ ac
  | @step f s hf hs ih=>
   have aD:=hf.isP fun s hs=>(hG.gen _ _ hs).1;have aE:AX b f:=by
    clear ih
    induction hf with
    | one=>exact K5 _
    | step hf' hs' ih'=>exact(ih' (hf'.isP fun s hs=>(hG.gen _ _ hs).1)).comp (hG.gen _ _ hs').2
   obtain⟨r,h1,h2⟩:=ih;obtain⟨_,_,h3,h4,h5⟩:=hG.rep _ _ _ h1;obtain⟨r',h6,h7⟩:=(hC b (Nat.le_refl _) ac).done _ _ h1 s hs;obtain⟨_,_,h8,h9,aH⟩:=hG.rep _ _ _ h6;have aA:=(hG.gen _ _ hs);have e1:(Aq r s) b=(Aq f s) b:=by show s (r b)=s (f b);rw[h5]
   refine⟨r',by rw[<-e1];exact h6,?_⟩;have e2:Aq (Aq f s) (A7 n r')=Aq (Aq f (A7 n r)) (Aq (Aq r s) (A7 n r')):=by
    conv=>lhs;rw[<-h3.cancel (f:=f)]
    rfl
   rw[e2];have hk:n-(b+1)=k:=ac;rw[hk]at h7;have hA:=aE.div h3 h4 h5;have hB:AX (b+1) (Aq (Aq r s) (A7 n r')):=(h4.comp aA.2).div h8 h9 (by rw[aH]);have aC:=aD.comp h3.inv;have aB:=(h3.comp aA.1).comp h8.inv
   cases k with
   | zero=>trivial
   | succ k=>
    have IH:=U6 hG k (b+1) ac fun c hc aF=>hC c ac aF;exact(IH _ (aC.comp aB) (hA.comp hB)).2 (((IH _ aC hA).1 h2).mul ((IH _ aB hB).1 h7))
def JI(H:(Nat->Nat)->Prop)(b:Nat)(t:Tw):Prop:=(∀c x r,b<=c->t.R c x=some r->H r)/\∀c h,b<=c->h∈t.g c->H h
theorem JI.up{H:(Nat->Nat)->Prop}{b c:Nat}{t:Tw}(h:JI H b t)(hc:b<=c):JI H c t:=⟨fun c' x r h1=>h.1 c' x r ac,fun c' x h1=>h.2 c' x ac⟩
def IC(b:Nat)(t t':Tw):Prop:=∀c,c<b->(∀x,t'.R c x=t.R c x)/\t'.g c=t.g c
theorem IC.refl(b:Nat)(t:Tw):IC b t t:=fun _ _=>⟨fun _=>rfl,rfl⟩
theorem IC.trans{b:Nat}{t u v:Tw}(h:IC b t u)(k:IC b u v):IC b t v:=fun c hc=>⟨fun x=>by rw[(k c hc).1,(h c hc).1],by rw[(k c hc).2,(h c hc).2]⟩
theorem IC.down{b c:Nat}{t u:Tw}(h:IC b t u)(hc:c<=b):IC c t u:=fun d hd=>h d ac
def RW(t t':Tw):Prop:=∀b x r,t.R b x=some r->t'.R b x=some r
theorem RW.trans{t u v:Tw}(h:RW t u)(k:RW u v):RW t v:=fun b x r hr=>k b x r (h b x r hr)
structure Qv(n b:Nat)(p:Nat->Nat)(t t':Tw):Prop where
 good:CU n t'
 low:IC b t t'
 le:RW t t'
 comp:∀c,b<=c->c<n->DF n t' c
 mem:Sf n t'.R (n-b) b p
 snd:∀H,Xl n H->JI H b t->H p->JI H b t'
structure Xd(n b:Nat)(q:Nat->Nat)(t t':Tw):Prop where
 good:CU n t'
 low:IC b t t'
 le:RW t t'
 gb:t'.g b=t.g b
 comp:∀c,b+1<=c->c<n->DF n t' c
 done:FA n t'.R b q
 new:∀x r,t.R b x=none->t'.R b x=some r->∀h∈t.g b,FA n t'.R b (Aq r h)
 snd:∀H,Xl n H->JI H b t->H q->JI H b t'
theorem Qv.same{n b:Nat}{p:Nat->Nat}{t:Tw}(hG:CU n t)(hC:∀c,b<=c->c<n->DF n t c)(h:Sf n t.R (n-b) b p):Qv n b p t t:=
 ⟨hG,IC.refl _ _,fun _ _ _ h=>h,hC,h,fun _ _ h _=>h⟩
theorem Qv.vis{n b:Nat}{q r:Nat->Nat}{t t':Tw}(hb:b<n)(hG:CU n t)(hr:t.R b (q b)=some r)(h:Qv n (b+1) (Aq q (A7 n r)) t t'):Xd n b q t t':=
 ⟨h.good,h.low.down ac,h.le,(h.low b ac).2,h.comp,⟨r,h.le _ _ _ hr,h.mem⟩,fun x r' h1 h2=>by
  rw[(h.low b ac).1 x,h1]at h2;exact(nomatch h2),fun H hH hS hq=>by
  have h1:=h.snd H hH (hS.up ac) (hH.mul _ _ hq (hH.inv _ (hS.1 _ _ _ (Nat.le_refl _) hr)));refine⟨fun c x r' hc aA=>?_,fun c k hc hk=>?_⟩
  .by_cases e:c=b
   .subst e;rw[(h.low c ac).1 x]at aA;exact hS.1 c x r' (Nat.le_refl _) aA
   .exact h1.1 c x r' ac aA
  .by_cases e:c=b
   .subst e;rw[(h.low c ac).2]at hk;exact hS.2 c k (Nat.le_refl _) hk
   .exact h1.2 c k ac hk⟩
def LK(t:Tw)(b x:Nat)(q:Nat->Nat):Tw:=⟨fun c y=>if c=b/\y=x then some q else t.R c y,t.g⟩
def RN(t:Tw)(b:Nat)(p:Nat->Nat):Tw:=⟨t.R,fun c=>if c=b then t.g c ++ [p] else t.g c⟩
structure Ot(n b:Nat)(q:Nat->Nat)(t t':Tw)(k:Nat):Prop where
 good:CU n t'
 low:IC b t t'
 le:RW t t'
 gb:t'.g b=t.g b
 comp:∀c,b+1<=c->c<n->DF n t' c
 rep:t'.R b (q b)=some q
 done:∀j h,j<k->(t.g b)[j]?=some h->FA n t'.R b (Aq q h)
 new:∀x r,x≠q b->t.R b x=none->t'.R b x=some r->∀h∈t.g b,FA n t'.R b (Aq r h)
 snd:∀H,Xl n H->JI H b t->H q->JI H b t'
theorem Ot.start{n b:Nat}{q:Nat->Nat}{t:Tw}(hb:b<n)(hG:CU n t)(hC:∀c,b+1<=c->c<n->DF n t c)(hP:Bd n q)(hF:AX b q)(hr:t.R b (q b)=none):Ot n b q t (LK t b (q b) q) 0:=by
 have aA:RW t (LK t b (q b) q):=fun c x r h=>by
  show(if c=b/\x=q b then some q else t.R c x)=some r
  split
  .rename_i e;rw[e.1,e.2,hr]at h;cases h
  .exact h
 refine⟨⟨fun c x r h=>?_,fun c hc=>aA _ _ _ (hG.one c hc),hG.gen⟩,fun c hc=>⟨fun x=>?_,rfl⟩,aA,rfl,fun c hc aB=>(hC c hc aB).congr (fun d x hd=>?_) (fun _ _=>rfl),?_,fun j h hj=>ac,fun x r hx h1 h2=>?_,fun H hH hS hq=>⟨fun c x r hc h=>?_,hS.2⟩⟩
 .have h:(if c=b/\x=q b then some q else t.R c x)=some r:=h;split at h
  .rename_i e;injection h with h;subst h;rw[e.1,e.2];exact⟨hb,hP.lt _ hb,hP,hF,rfl⟩
  .exact hG.rep c x r h
 .show(if c=b/\x=q b then some q else t.R c x)=t.R c x
  rw[if_neg ac]
 .show t.R d x=(if d=b/\x=q b then some q else t.R d x)
  rw[if_neg ac]
 .show(if b=b/\q b=q b then some q else t.R b (q b))=some q
  rw[if_pos ⟨rfl,rfl⟩]
 .have h2:(if b=b/\x=q b then some q else t.R b x)=some r:=h2;rw[if_neg (fun e=>hx e.2),h1]at h2;cases h2
 .have h:(if c=b/\x=q b then some q else t.R c x)=some r:=h;split at h
  .injection h with h;subst h;exact hq
  .exact hS.1 c x r hc h
theorem Ot.step{n b k:Nat}{q h:Nat->Nat}{t u v:Tw}(hl:Ot n b q t u k)(hk:(t.g b)[k]?=some h)(hv:Xd n b (Aq q h) u v):Ot n b q t v (k+1):=
 ⟨hv.good,hl.low.trans hv.low,hl.le.trans hv.le,by rw[hv.gb,hl.gb],hv.comp,hv.le _ _ _ hl.rep,fun j s hj hs=>by
  by_cases e:j=k
  .subst e;rw[hk]at hs;injection hs with hs;subst hs;exact hv.done
  .exact(hl.done j s ac hs).mono hv.le,fun x r hx h1 h2 s hs=>by
  cases hu:u.R b x with
  | none=>exact hv.new x r hu h2 s (by rw[hl.gb];exact hs)
  | some r'=>
   have h3:=hv.le _ _ _ hu;rw[h2]at h3;injection h3 with h3;subst h3;exact(hl.new x r hx h1 hu s hs).mono hv.le,fun H hH hS hq=>by
  have h1:=hl.snd H hH hS hq;exact hv.snd H hH h1 (hH.mul _ _ hq (h1.2 b h (Nat.le_refl _) (by rw[hl.gb];exact List.mem_of_getElem? hk)))⟩
theorem Ot.fin{n b k:Nat}{q:Nat->Nat}{t u:Tw}(hb:b<n)(hP:Bd n q)(hl:Ot n b q t u k)(hk:(t.g b).length<=k):Xd n b q t u:=
 ⟨hl.good,hl.low,hl.le,hl.gb,hl.comp,⟨q,hl.rep,by rw[hP.then_inv];exact U5 hl.good _ _ ac⟩,fun x r h1 h2 s hs=>by
  by_cases e:x=q b
  .subst e;rw[hl.rep]at h2;injection h2 with h2;subst h2;obtain⟨j,hj,e⟩:=List.getElem_of_mem hs;exact hl.done j s ac ar
  .exact hl.new x r e h1 h2 s hs,hl.snd⟩
structure JJ(n b:Nat)(p:Nat->Nat)(t t':Tw)(x:Nat):Prop where
 good:CU n t'
 low:IC b t t'
 le:RW t t'
 gb:t'.g b=t.g b ++ [p]
 comp:∀c,b+1<=c->c<n->DF n t' c
 old:∀y r,y<x->t.R b y=some r->FA n t'.R b (Aq r p)
 new:∀y r,t.R b y=none->t'.R b y=some r->∀h∈t'.g b,FA n t'.R b (Aq r h)
 snd:∀H,Xl n H->JI H b t->H p->JI H b t'
theorem JJ.start{n b:Nat}{p:Nat->Nat}{t:Tw}(hG:CU n t)(hC:∀c,b+1<=c->c<n->DF n t c)(hP:Bd n p)(hF:AX b p):JJ n b p t (RN t b p) 0:=by
 refine⟨⟨hG.rep,hG.one,fun c h hh=>?_⟩,fun c hc=>⟨fun _=>rfl,?_⟩,fun _ _ _ h=>h,?_,fun c hc aA=>(hC c hc aA).congr (fun _ _ _=>rfl) (fun d hd=>?_),fun y r hy=>ac,fun y r h1 h2=>?_,fun H hH hS hp=>⟨hS.1,fun c h hc hh=>?_⟩⟩
 .have h2:h∈(if c=b then t.g c ++ [p] else t.g c):=hh;by_cases e:c=b
  .subst e;rw[if_pos rfl]at h2;rcases List.mem_append.1 h2 with h1|h1
   .exact hG.gen c h h1
   .rw[List.mem_singleton.1 h1];exact⟨hP,hF⟩
  .rw[if_neg e]at h2;exact hG.gen c h h2
 .show(if c=b then t.g c ++ [p] else t.g c)=t.g c
  rw[if_neg ac]
 .show(if b=b then t.g b ++ [p] else t.g b)=_
  rw[if_pos rfl]
 .show t.g d=(if d=b then t.g d ++ [p] else t.g d)
  rw[if_neg ac]
 .have h2:t.R b y=some r:=h2;rw[h1]at h2;cases h2
 .have hh:h∈(if c=b then t.g c ++ [p] else t.g c):=hh;split at hh
  .rcases List.mem_append.1 hh with h1|h1
   .exact hS.2 c h hc h1
   .rw[List.mem_singleton.1 h1];exact hp
  .exact hS.2 c h hc hh
theorem JJ.skip{n b x:Nat}{p:Nat->Nat}{t u:Tw}(hl:JJ n b p t u x)(h:t.R b x=none):JJ n b p t u (x+1):=
 ⟨hl.good,hl.low,hl.le,hl.gb,hl.comp,fun y r hy hr=>by
  by_cases e:y=x
  .subst e;rw[h]at hr;cases hr
  .exact hl.old y r ac hr,hl.new,hl.snd⟩
theorem JJ.step{n b x:Nat}{p r:Nat->Nat}{t u v:Tw}(hl:JJ n b p t u x)(hr:t.R b x=some r)(hv:Xd n b (Aq r p) u v):JJ n b p t v (x+1):=
 ⟨hv.good,hl.low.trans hv.low,hl.le.trans hv.le,by rw[hv.gb,hl.gb],hv.comp,fun y r' hy aA=>by
  by_cases e:y=x
  .subst e;rw[hr]at aA;injection aA with aA;subst aA;exact hv.done
  .exact(hl.old y r' ac aA).mono hv.le,fun y r' h1 h2 s hs=>by
  rw[hv.gb]at hs
  cases hu:u.R b y with
  | none=>exact hv.new y r' hu h2 s hs
  | some r''=>
   have h3:=hv.le _ _ _ hu;rw[h2]at h3;injection h3 with h3;subst h3;exact(hl.new y r' h1 hu s hs).mono hv.le,fun H hH hS hp=>by
  have h1:=hl.snd H hH hS hp;exact hv.snd H hH h1 (hH.mul _ _ (h1.1 _ _ _ (Nat.le_refl _) (hl.le _ _ _ hr)) hp)⟩
theorem JJ.fin{n b x:Nat}{p:Nat->Nat}{t u:Tw}(hb:b<n)(hG:CU n t)(hC:∀c,b<=c->c<n->DF n t c)(hP:Bd n p)(hF:AX b p)(hl:JJ n b p t u x)(hx:n<=x):Qv n b p t u:=by
 have aE:Xl n (Gn (u.g b)):=Gn.grp fun s hs=>(hl.good.gen _ _ hs).1;have hp:Gn (u.g b) p:=Gn.of (by rw[hl.gb];simp);have aA:∀f,Gn (t.g b) f->Gn (u.g b) f:=fun f hf=>hf.mono fun s hs=>Gn.of (by rw[hl.gb];exact List.mem_append_left _ hs);have hS:=hl.snd _ aE ⟨fun c x r hc hr=>aA _ ((hC b (Nat.le_refl _) hb).rep c x r hc hr),fun c k hc hk=>aA _ ((hC b (Nat.le_refl _) hb).gen c k hc hk)⟩ hp;have aD:DF n u b:=⟨fun y r hr s hs=>by
   cases h:t.R b y with
   | none=>exact hl.new y r h hr s hs
   | some r'=>
    have h3:=hl.le _ _ _ h;rw[hr]at h3;injection h3 with h3;subst h3;rw[hl.gb]at hs;rcases List.mem_append.1 hs with h1|h1
    .exact((hC b (Nat.le_refl _) hb).done y r h s h1).mono hl.le
    .rw[List.mem_singleton.1 h1];exact hl.old y r (by have:=(hG.rep _ _ _ h).2.1;omega) h,hS.1,hS.2⟩
 have aB:∀c,b<=c->c<n->DF n u c:=fun c hc aC=>by
  by_cases e:c=b
  .subst e;exact aD
  .exact hl.comp c ac aC
 refine⟨hl.good,hl.low,hl.le,aB,?_,hl.snd⟩;obtain⟨k,hk⟩:∃k,n-b=k+1:=⟨n-b-1,ac⟩;rw[hk];exact(U6 hl.good k b ac aB p hP hF).2 hp
def ND(n:Nat):Tw:=⟨fun b x=>if b<n/\x=b then some Ej else none,fun _=> []⟩
theorem Uc(n:Nat):CU n (ND n):=
 ⟨fun b x r h=>by
  have h:(if b<n/\x=b then some Ej else none)=some r:=h;split at h
  .rename_i e;injection h with h;subst h;exact⟨e.1,ac,Fb n,K5 _,e.2.symm⟩
  .exact(nomatch h),fun b hb=>by
  show(if b<n/\b=b then some Ej else none)=some Ej
  rw[if_pos ⟨hb,rfl⟩],fun _ _ h=>by cases h⟩
theorem Ud(n c:Nat):DF n (ND n) c:=
 ⟨fun _ _ _ _ h=>by (first|cases h|exact absurd h (List.not_mem_nil)),fun c' x r _ h=>by
  have h:(if c'<n/\x=c' then some Ej else none)=some r:=h;split at h
  .injection h with h;subst h;exact .one
  .exact(nomatch h),fun _ _ _ h=>by cases h⟩
structure ID(n:Nat)(S:List (Nat->Nat))(t:Tw)(k:Nat):Prop where
 good:CU n t
 comp:∀c,c<n->DF n t c
 mem:∀j s,j<k->S[j]?=some s->Sf n t.R n 0 s
 snd:JI (Gn S) 0 t
theorem ID.start{n:Nat}{S:List (Nat->Nat)}:ID n S (ND n) 0:=
 ⟨Uc n,fun c _=>Ud n c,fun j s h=>ac,fun c x r _ h=>by
  have h:(if c<n/\x=c then some Ej else none)=some r:=h;split at h
  .injection h with h;subst h;exact .one
  .exact(nomatch h),fun _ _ _ h=>by cases h⟩
theorem ID.step{n k:Nat}{S:List (Nat->Nat)}{t t':Tw}{s:Nat->Nat}(hS:∀s∈S,Bd n s)(h:ID n S t k)(hs:S[k]?=some s)(hi:Qv n 0 s t t'):ID n S t' (k+1):=
 ⟨hi.good,fun c hc=>hi.comp c ac hc,fun j s' hj aA=>by
  by_cases e:j=k
  .subst e;rw[hs]at aA;injection aA with aA;subst aA;exact hi.mem
  .exact(h.mem j s' ac aA).mono hi.le,hi.snd _ (Gn.grp hS) h.snd (Gn.of (List.mem_of_getElem? hs))⟩
theorem sf_up{n:Nat}{t:Tw}(hG:CU n t){f:Nat->Nat}:∀k b,b+k=n->AX b f->(Sf n t.R n 0 f↔Sf n t.R k b f):=by
 intro k b
 induction b generalizing k with
 | zero=>intro h _;rw[show k=n by omega]
 | succ b ih=>
  intro h hF;rw[ih (k+1) ac (fun i hi=>hF i ac)];have hb:f b=b:=hF b ac;have h1:=hG.one b ac;constructor
  .rintro⟨r,h2,h3⟩;rw[hb,h1]at h2;injection h2 with h2;subst h2;rw[NU]at h3;exact h3
  .intro h3;exact⟨Ej,by rw[hb];exact h1,by rw[NU];exact h3⟩
theorem ID.grp{n k:Nat}{S:List (Nat->Nat)}{t:Tw}(hn:1<=n)(hS:∀s∈S,Bd n s)(h:ID n S t k)(hk:S.length<=k){b:Nat}(hb:b<=n){f:Nat->Nat}(hP:Bd n f)(hF:AX b f):Sf n t.R (n-b) b f↔Gn S f:=by
 rw[<-sf_up h.good (n-b) b ac hF];obtain⟨m,rfl⟩:∃m,n=m+1:=⟨n-1,ac⟩;have aA:=U6 h.good m 0 ac (fun c _ hc=>h.comp c hc);constructor
 .intro h1;exact U4 h.good (Gn.grp hS) (m+1) 0 f ac h.snd.1 hP (fun i hi=>ac) h1
 .intro h1;refine(aA f hP (fun i hi=>ac)).2 (h1.mono fun s hs=>?_);obtain⟨j,hj,e⟩:=List.getElem_of_mem hs;exact(aA s (hS s hs) (fun i hi=>ac)).1 (h.mem j s ac ar)
theorem ID.orb{n k:Nat}{S:List (Nat->Nat)}{t:Tw}(hn:1<=n)(hS:∀s∈S,Bd n s)(h:ID n S t k)(hk:S.length<=k){b:Nat}(hb:b<n)(x:Nat):(∃r,t.R b x=some r)↔∃f,Gn S f/\AX b f/\f b=x:=by
 constructor
 .rintro⟨r,hr⟩;obtain⟨_,_,h1,h2,h3⟩:=h.good.rep _ _ _ hr;exact⟨r,h.snd.1 _ _ _ (Nat.zero_le _) hr,h2,h3⟩
 .rintro⟨f,hf,hF,rfl⟩;have:=(h.grp hn hS hk ac (hf.isP hS) hF).2 hf;rw[show n-b=n-(b+1)+1 by omega]at this;obtain⟨r,hr,_⟩:=this;exact⟨r,hr⟩
theorem Kw(n:Nat)(f:Nat->Int):(il n f).length=n:=Am n f
theorem PH{N:Nat}{f g:Nat->Int}(h:∀j,j<N->f j=g j):il N f=il N g:=by
 apply List.ext_getElem?;intro j;by_cases hj:j<N
 .rw[AO hj,AO hj,h j hj]
 .rw[List.getElem?_eq_none (by rw[Kw];omega),List.getElem?_eq_none (by rw[Kw];omega)]
theorem zdk{P:Prop}(h:P:=by
 rw[List.getD_eq_getElem?_getD,AO h];rfl):P:=h
theorem YW{N j:Nat}(h:j<N)(f:Nat->Int):(il N f).getD j 0=f j:=by
 exact zdk
theorem Vx{n:Nat}{f:Nat->Int}{x:Int}(h:x∈il n f):∃j,j<n/\f j=x:=by
 unfold il at h;obtain⟨j,hj,e⟩:=List.mem_map.1 h;exact⟨j,List.mem_range.1 hj,e⟩
def li(n:Nat)(f:Nat->Nat):List Int:=il n fun i=>(f i:Int)
theorem Co(n:Nat)(f:Nat->Nat):(li n f).length=n:=Kw _ _
theorem Di{n i:Nat}(h:i<n)(f:Nat->Nat):(li n f)[i]?=some (f i:Int):=AO h _
theorem VV{n:Nat}{f g:Nat->Nat}(h:∀i,i<n->f i=g i):li n f=li n g:=PH fun i hi=>by rw[h i hi]
theorem li_at{n:Nat}{f g:Nat->Nat}(h:li n f=li n g){i:Nat}(hi:i<n):f i=g i:=by
 have:=Di hi f;rw[h,Di hi g]at this;injection this with this;omega
theorem VU{n:Nat}{f g:Nat->Nat}(hf:Bd n f)(hg:Bd n g)(h:li n f=li n g):f=g:=GK hf hg fun i hi=>li_at h hi
theorem DQ{w:World}{v:Value}{n:Nat}{f:Nat->Nat}(h:Aj w v (li n f)):∃a cap,v= .slice a n cap/\n<=cap/\cap<=maxLen/\
  (0<n->∃b o,a=some ⟨b,o,none⟩/\∀j,j<n->w.cell? ⟨b,o+j,none⟩=some (.int .i64 (f j:Int))):=by
 obtain⟨a,cap,h1,h2,h3,h4⟩:=h.open;rw[Co]at h1 h2 h4;refine⟨a,cap,h1,h2,h3,fun hn=>?_⟩;obtain⟨b,o,h5,h6⟩:=h4 hn;exact⟨b,o,h5,fun j hj=>h6 j _ (Di hj f)⟩
theorem AE.li{w:World}{base:Nat}{e:TypeId}{g n:Nat}{f:Nat->Nat}(h:AE w base e g n (iv fun i=>(f i:Int))):Aj w (.slice (some ⟨g,0,none⟩) n n) (Go.Proofs.YtehieobniamagaaGreat.li n f):=h.isl
theorem zbT{P:Prop}(h:P:=by
 go_wp2_with fail
 go_roundw
 case rel=>exact⟨k+1,by omega,by go_num,HO,HX⟩
 case measure=>simp[intOf];omega):P:=h
theorem zc2{P:Prop}(h:P:=by
 clear aA;go_wp2_with fail
 go_ret;exact⟨g,rfl,HO.o,hx.o⟩):P:=h
theorem Fe(w:World)(n:Nat)(f h:Nat->Nat)(u v:Value)(hu:Aj w u (li n f))(hv:Aj w v (li n h))(hn:n<=100)(hf:∀i,i<n->f i<n):
  Calls Tryz.prog 108 #[u,v] w fun r w'=>∃g,r= .returned (.slice (some ⟨g,0,none⟩) n n)/\AE w' w.heap.size 3 g n (iv fun i=>(Aq f h i:Int))/\Ex w w':=by
 obtain⟨ua,uc,rfl,_,u2,u3⟩:=DQ hu;obtain⟨va,vc,rfl,_,v2,v3⟩:=DQ hv;unfold maxLen at u2 v2;have U3:=Aa u3;have V3:=Aa v3;have HF:=Aa hf;clear hu hv u3 v3 hf;go_enter Tryz.func108,Tryz.ntmps108
 go_wp2_with (at_make;refine Ar _ rfl _ _ 22 rfl 3 (.int .i64 0) 8 Tryz.underlying22 AA rfl _ n rfl rfl rfl ac ai ?_)
 intro w3 aA aC;obtain⟨g,aB⟩:=nA w.heap.size;have aH:=Aa (show AE w3 g 3 g n (iv fun i=>if i<0 then(Aq f h i:Int) else 0) from by rw[<-aB];exact aA.icongr fun i _=>rfl);have aF:=Aa aC;have aG:=Aa aB;rw[aB]at ⊢;clear aA aC aB;go_wp2_with fail
 go_loopw [13] (fun k' wr=>∃(k:Nat),k<=n/\k'= .int .i64 k/\Hia (AE wr g 3 g n (iv fun i=>if i<k then(Aq f h i:Int) else 0))/\Hia (Ex w wr)) (fun k' _=>n-(intOf k').toNat)
 case atStart=>exact⟨0,ac,rfl,aH,aF⟩
 case round=>
  clear aH aF;obtain⟨k,hk,rfl,aA,hx⟩:=hrel;by_cases hkn:k<n
  .obtain⟨ub,uo,rfl,aE⟩:=U3.o ac;obtain⟨vb,vo,rfl,aD⟩:=V3.o ac;have aI:=HF.o k hkn;have c1:=hx.o.cell (aE k hkn);have c2:=hx.o.cell (aD (f k) aI);have c3:=aA.o.cell hkn;have c4:=aA.o.frz k;have i1:(0:Int)<=(k:Int):=by omega
   have i2:(k:Int)<(n:Int):=ac;have i3:(0:Int)<=(f k:Int):=ac;have i4:(f k:Int)<(n:Int):=ac;have HO:=Aa (show AE (wr.setCell ⟨g,k,none⟩ (.int .i64 (h (f k):Int))) g 3 g n (iv fun i=>if i<k+1 then(Aq f h i:Int) else 0) from by
    refine(aA.o.set k _).congr fun i hi=>?_;by_cases e:i=k
    .subst e;rw[Ab];show _=Value.int .i64 (if i<i+1 then(Aq f h i:Int) else 0);rw[if_pos ac];rfl
    .rw[Ad _ _ e];show Value.int .i64 (if i<k then(Aq f h i:Int) else 0)=Value.int .i64 (if i<k+1 then(Aq f h i:Int) else 0)
     by_cases h:i<k
     .exact za6
     .rw[if_neg h,if_neg ac])
   have HX:=Aa (aA.o.exSet (a:=w) (by have:=aG.o;omega) hx.o k (.int .i64 (h (f k):Int)));clear aE aD aA hx;exact zbT
  .obtain rfl:k=n:=by omega
   have HO:=Aa (show AE wr w.heap.size 3 g k (iv fun i=>(Aq f h i:Int)) from by
    rw[aG.o];exact aA.o.icongr fun i hi=>if_pos hi)
   exact zc2
theorem Gq(w:World)(n:Nat)(f:Nat->Nat)(u:Value)(hu:Aj w u (li n f))(hn:n<=100)(hf:Bd n f):
  Calls Tryz.prog 109 #[u] w fun r w'=>∃g,r= .returned (.slice (some ⟨g,0,none⟩) n n)/\AE w' w.heap.size 3 g n (iv fun i=>(A7 n f i:Int))/\Ex w w':=by
 obtain⟨ua,uc,rfl,_,u2,u3⟩:=DQ hu;unfold maxLen at u2;have U3:=Aa u3;have HF:=Aa hf;clear hu u3 hf;go_enter Tryz.func109,Tryz.ntmps109
 go_wp2_with (at_make;refine Ar _ rfl _ _ 22 rfl 3 (.int .i64 0) 8 Tryz.underlying22 AA rfl _ n rfl rfl rfl ac ai ?_)
 intro w3 aA aC;obtain⟨g,aB⟩:=nA w.heap.size;have aG:=Aa (show AE w3 g 3 g n (iv fun i=>if A7 n f i<0 then(A7 n f i:Int) else 0) from by rw[<-aB];exact aA.icongr fun i _=>rfl);have aE:=Aa aC;have aF:=Aa aB;rw[aB]at ⊢;clear aA aC aB;go_wp2_with fail
 go_loopw [11] (fun k' wr=>∃(k:Nat),k<=n/\k'= .int .i64 k/\Hia (AE wr g 3 g n (iv fun i=>if A7 n f i<k then(A7 n f i:Int) else 0))/\Hia (Ex w wr)) (fun k' _=>n-(intOf k').toNat)
 case atStart=>exact⟨0,ac,rfl,aG,aE⟩
 case round=>
  clear aG aE;obtain⟨k,hk,rfl,aA,hx⟩:=hrel;by_cases hkn:k<n
  .obtain⟨ub,uo,rfl,aD⟩:=U3.o ac;have aH:=HF.o.lt k hkn;have c1:=hx.o.cell (aD k hkn);have c3:=aA.o.cell aH;have c4:=aA.o.frz (f k);have i1:(0:Int)<=(k:Int):=by omega
   have i2:(k:Int)<(n:Int):=ac;have i3:(0:Int)<=(f k:Int):=ac;have i4:(f k:Int)<(n:Int):=ac;have HO:=Aa (show AE (wr.setCell ⟨g,f k,none⟩ (.int .i64 (k:Int))) g 3 g n (iv fun i=>if A7 n f i<k+1 then(A7 n f i:Int) else 0) from by
    refine(aA.o.set (f k) _).congr fun i hi=>?_;by_cases e:i=f k
    .subst e;rw[Ab];show _=Value.int .i64 (if A7 n f (f k)<k+1 then(A7 n f (f k):Int) else 0);rw[HF.o.inv_l,if_pos ac]
    .rw[Ad _ _ e];show Value.int .i64 (if A7 n f i<k then(A7 n f i:Int) else 0)=Value.int .i64 (if A7 n f i<k+1 then(A7 n f i:Int) else 0)
     have h1:A7 n f i≠k:=fun h=>e (by rw[<-h,HF.o.inv_r]);by_cases h:A7 n f i<k
     .exact za6
     .rw[if_neg h,if_neg ac])
   have HX:=Aa (aA.o.exSet (a:=w) (by have:=aF.o;omega) hx.o (f k) (.int .i64 (k:Int)));clear aD aA hx;exact zbT
  .obtain rfl:k=n:=by omega
   have HO:=Aa (show AE wr w.heap.size 3 g k (iv fun i=>(A7 k f i:Int)) from by
    rw[aF.o];exact aA.o.icongr fun i hi=>if_pos (HF.o.inv.lt i hi))
   exact zc2
theorem Il(w:World)(n:Nat)(hn:n<=100):
  Calls Tryz.prog 102 #[.int .i64 n] w fun r w'=>∃g,r= .returned (.slice (some ⟨g,0,none⟩) n n)/\AE w' w.heap.size 3 g n (iv fun i=>(Ej i:Int))/\Ex w w':=by
 go_enter Tryz.func102,Tryz.ntmps102
 go_wp2_with (at_make;refine Ar _ rfl _ _ 22 rfl 3 (.int .i64 0) 8 Tryz.underlying22 AA rfl _ n rfl rfl rfl ac ai ?_)
 intro w3 aA aC;obtain⟨g,aB⟩:=nA w.heap.size;have aF:=Aa (show AE w3 g 3 g n (iv fun i=>if i<0 then(i:Int) else 0) from by rw[<-aB];exact aA.icongr fun i _=>rfl);have aD:=Aa aC;have aE:=Aa aB;rw[aB]at ⊢;clear aA aC aB;go_wp2_with fail
 go_loopw [9] (fun k' wr=>∃(k:Nat),k<=n/\k'= .int .i64 k/\Hia (AE wr g 3 g n (iv fun i=>if i<k then(i:Int) else 0))/\Hia (Ex w wr)) (fun k' _=>n-(intOf k').toNat)
 case atStart=>exact⟨0,ac,rfl,aF,aD⟩
 case round=>
  clear aF aD;obtain⟨k,hk,rfl,aA,hx⟩:=hrel;by_cases hkn:k<n
  .have c3:=aA.o.cell hkn;have c4:=aA.o.frz k;have i1:(0:Int)<=(k:Int):=by omega
   have i2:(k:Int)<(n:Int):=ac;have HO:=Aa (show AE (wr.setCell ⟨g,k,none⟩ (.int .i64 (k:Int))) g 3 g n (iv fun i=>if i<k+1 then(i:Int) else 0) from by
    refine(aA.o.set k _).congr fun i hi=>?_;by_cases e:i=k
    .subst e;rw[Ab];show _=Value.int .i64 (if i<i+1 then(i:Int) else 0);rw[if_pos ac]
    .rw[Ad _ _ e];show Value.int .i64 (if i<k then(i:Int) else 0)=Value.int .i64 (if i<k+1 then(i:Int) else 0)
     by_cases h:i<k
     .exact za6
     .rw[if_neg h,if_neg ac])
   have HX:=Aa (aA.o.exSet (a:=w) (by have:=aE.o;omega) hx.o k (.int .i64 (k:Int)));clear aA hx;exact zbT
  .obtain rfl:k=n:=by omega
   have HO:=Aa (show AE wr w.heap.size 3 g k (iv fun i=>(Ej i:Int)) from by
    rw[aE.o];exact aA.o.icongr fun i hi=>if_pos hi)
   exact zc2
theorem Zr{p m:Int}{ml:List Int}(h:¬FX p m ml):B9 p m ml=1:=by
 have h1:B9 p m ml≠0:=fun e=>h ((Cj p m ml).1 e);unfold B9 at h1 ⊢;split
 .rename_i h2;rw[if_pos h2]at h1;exact absurd rfl h1
 .rfl
theorem RZ(w:World)(p m:Int)(ml:List Int)(mv:Value)(aD:Aj w mv ml):
  Calls Tryz.prog 147 #[.agg #[.int .i64 p,.int .i64 m,mv]] w fun r w'=>r= .returned (.int .i64 (B9 p m ml))/\Ex w w':=by
 obtain⟨a0,a1,a2,ea,-⟩:=Az w p m mv;have HE:=Aa ea;have aE:=Aa (aD.ex ea);have aC:=Aa (fun w' (h:Aj w' mv ml)=>Mq p m ml mv w' h);have aA:=IX p m;obtain⟨R,hR⟩:=nA (B9 p m ml);rw[hR];by_cases hs:Kd p m ml=true
 .obtain⟨pn,mn,rfl,rfl,hf,aH,ho⟩:=Nk hs;rw[ho]at aA;rw[hs]at aC;have aJ:=Aa aA;have aK:=Aa (fun w' (h:Aj w' mv ml)=>G7 pn mn ml mv w' hf h);obtain⟨B,hB⟩:∃B:Bool,(B=true↔R=1)/\(B=false↔R=0)/\∀w' v,OA pn mn ml w' v->∃ga gn gc,v= .slice ga gn gc/\ga.isNone=B:=by
   by_cases hF:GW pn mn (lw ml)
   .have h0:=(Cj _ _ _).2 ⟨pn,mn,rfl,rfl,hf,aH,hF⟩;rw[hR]at h0;subst h0;refine⟨false,ag,ag,fun w' v h=>?_⟩;rcases h with⟨x,x1,x2,hgx,hgv⟩|⟨hno,rfl⟩
    .obtain⟨ga,gc,rfl,g1,g2,g3⟩:=hgv.open;obtain⟨gb,gof,rfl,g4⟩:=g3 (by rw[Am];have:=Bw hf.p2 hf.m1;omega);exact⟨_,_,_,rfl,rfl⟩
    .exact absurd hF hno
   .have h0:B9 pn mn ml=1:=Zr fun ⟨a,b,e1,e2,_,_,h⟩=>by
     have aO:pn=a:=ac;have aN:mn=b:=ac;subst aO;subst aN;exact hF h
    rw[hR]at h0;subst h0;refine⟨true,ag,ag,fun w' v h=>?_⟩;rcases h with⟨x,x1,x2,hgx,hgv⟩|⟨hno,rfl⟩
    .exact absurd ⟨x,x1,x2,hgx⟩ hF
    .exact⟨_,_,_,rfl,rfl⟩
  have HB:=Aa hB;have hE:=fun w (a:Option Addr) (l c:Nat)=>AM (P:=Tryz.prog) w 22 3 a l c Tryz.underlying22;clear aA hf aH ho hs hB hR aD ea;obtain⟨q,aG⟩:=nA (pn^mn);rw[aG]at aJ aK;clear aG;go_enter Tryz.func147,Tryz.ntmps147
  go_wp2_with fail
  obtain⟨xb,aB⟩:=nA w.heap.size;rw[aB]at a0 a1 a2
  try simp only[aB]
  clear aB;generalize w.alloc (.cells #[.int .i64 pn,.int .i64 mn,mv] 24)=w1 at *;have G0:Ex w1 w1.drew:=(Ex.refl w1).drew;have A0:=Aa a0;have A1:=Aa a1;have A2:=Aa a2
  first|go_region_with ((first
        | (go_at_call 111;(with_reducible refine(aC.o _ (aE.o.ex G0)).mono ?_);rintro e w2⟨rfl,h2⟩;have X2:=G0.trans h2;have b0:=X2.cell A0.o;have b1:=X2.cell A1.o;have b2:=X2.cell A2.o;clear h2)
        | (go_at_call 112;(with_reducible refine(aJ.o _).mono ?_);rintro e w3⟨rfl,rfl⟩)
        | (go_at_call 113;(with_reducible refine(aK.o _ (aE.o.ex X2)).mono ?_);rintro e w3⟨gv,rfl,aI,aF⟩;have X3:=X2.trans aF;obtain⟨ga,gn,gc,rfl,aL⟩:=HB.o.2.2 _ _ aI;have aM:=fun w=>hE w ga gn gc;rw[aL]at aM;clear aI aF)))|fail
  all_goals
   cases B with
   | true=>
    obtain rfl:=HB.o.1.1 rfl;go_wp2_with fail
    go_ret;exact⟨rfl,HE.o.trans X3⟩
   | false=>
    obtain rfl:=HB.o.2.1.1 rfl;go_wp2_with fail
    go_ret;exact⟨rfl,HE.o.trans X3⟩
 .have hs:Kd p m ml=false:=by simpa using hs
  rw[hs]at aC;have hr:=Tk (p:=p) (m:=m) hs;rw[hR]at hr;subst hr;clear hs aA hR aD ea;go_enter Tryz.func147,Tryz.ntmps147
  go_wp2_with fail
  obtain⟨xb,aB⟩:=nA w.heap.size;rw[aB]at a0 a1 a2
  try simp only[aB]
  clear aB;generalize w.alloc (.cells #[.int .i64 p,.int .i64 m,mv] 24)=w1 at *;have G0:Ex w1 w1.drew:=(Ex.refl w1).drew
  first|go_region_with ((go_at_call 111;(with_reducible refine(aC.o _ (aE.o.ex G0)).mono ?_);rintro e w2⟨rfl,h2⟩;have X2:=G0.trans h2;clear h2))|fail
  all_goals
   go_wp2_with fail
   go_ret;exact⟨rfl,HE.o.trans X2⟩
structure Mk(w:World)(base g R N cap:Nat)(vals:Nat->Value)(a:Nat->Nat->Int):Prop where
 o:A8 w base 22 g R cap vals
 row:∀i,i<R->w.ownsRow base 3 1 (vals i) N (An (il N (a i)))
 ap:∀i,i<R->(vals i).ownBlock≠some g
section
variable {w w':World} {base g R N cap:Nat} {vals:Nat->Value} {a:Nat->Nat->Int}
theorem Mk.ex(h:Mk w base g R N cap vals a)(hx:Ex w w'):Mk w' base g R N cap vals a:=
 ⟨h.o.ex hx,fun i hi=>Ai (h.row i hi) hx,h.ap⟩
theorem Mk.set(h:Mk w base g R N cap vals a){i:Nat}{u:Value}{f:Nat->Int}(hu:w.ownsRow base 3 1 u N (An (il N f)))(hg:u.ownBlock≠some g):Mk (w.setCell ⟨g,i,none⟩ u) base g R N cap (Ay vals i u) (Ay a i f) where
 o:=h.o.set i u
 row:=fun j hj=>by
  by_cases e:j=i
  .subst e;rw[Ab,Ab];exact Ac hu hg u
  .rw[Ad _ _ e,Ad _ _ e];exact Ac (h.row j hj) (h.ap j hj) u
 ap:=fun j hj=>by
  by_cases e:j=i
  .subst e;rw[Ab];exact hg
  .rw[Ad _ _ e];exact h.ap j hj
theorem XU(a:Nat->Nat->Int)(s k:Nat):Ay (Ay a s (a k)) k (a s)=DA a s k:=by
 funext i;unfold Ay DA;by_cases e1:i=k
 .subst e1;rw[if_pos rfl];by_cases e2:i=s
  .subst e2;rw[if_pos rfl]
  .rw[if_neg e2,if_pos rfl]
 .rw[if_neg e1,if_neg e1]
theorem Mk.swp(h:Mk w base g R N cap vals a){s k:Nat}(hs:s<R)(hk:k<R):Mk ((w.setCell ⟨g,s,none⟩ (vals k)).setCell ⟨g,k,none⟩ (vals s)) base g R N cap (Ay (Ay vals s (vals k)) k (vals s)) (DA a s k):=by
 have h1:=h.set (i:=s) (h.row k hk) (h.ap k hk);have h2:=h1.set (i:=k) (u:=vals s) (f:=a s) (Ac (h.row s hs) (h.ap s hs) _) (h.ap s hs);rw[XU]at h2;exact h2
theorem Mk.exSet{w0:World}(h:Mk w base g R N cap vals a)(hb:w0.heap.size<=base)(hx:Ex w0 w)(i:Nat)(u:Value):Ex w0 (w.setCell ⟨g,i,none⟩ u):=h.o.exSet hb hx i u
theorem Mk.at(h:Mk w base g R N cap vals a)(hN:1<=N){i c:Nat}(hi:i<R)(hc:c<N):∃gi ci,vals i= .slice (some ⟨gi,0,none⟩) N ci/\w.cell? ⟨gi,c,none⟩=some (.int .i64 (a i c))/\N<=ci/\ci<=maxLen:=by
 have hr:=h.row i hi;obtain⟨gi,ci,e,h1,h2⟩:=Fk hr hN;refine⟨gi,ci,e,?_,h1,h2⟩;rw[e,Ct]at hr;have:=A8.cell (show A8 w base 3 gi N ci (iv (a i)) from hr) hc;exact this
theorem Mk.isl(h:Mk w base g R N cap vals a){i:Nat}(hi:i<R):Aj w (vals i) (il N (a i)):=by
 have:=Sl.own (h.row i hi);unfold Aj;rw[AJ];exact this
def Jd(b0:Nat)(w:World)(v:Value)(rows:List (List Int)):Prop:=∀w':World,(∀B,b0<=B->B<w.heap.size->w'.heap[B]?=w.heap[B]?)->BY w' v rows
theorem Jd.msl{b0:Nat}{w:World}{v:Value}{rows:List (List Int)}(h:Jd b0 w v rows):BY w v rows:=h w fun _ _ _=>rfl
theorem Jd.mono{b0 b1:Nat}{w:World}{v:Value}{rows:List (List Int)}(h:Jd b0 w v rows)(hb:b1<=b0):Jd b1 w v rows:=fun w' aA=>h w' fun B h1 h2=>aA B ac h2
theorem Jd.nil{b0:Nat}{w:World}{a:Option Addr}{c:Nat}(hc:c<=maxLen):Jd b0 w (.slice a 0 c) []:=fun w' _=>⟨[],⟨rfl,a,c,rfl,Nat.zero_le _,hc,fun h=>absurd h ag⟩,fun i r u h1 _=>by simp at h1⟩
theorem MW{w w':World}{B o:Nat}{v:Value}(h:w'.heap[B]?=w.heap[B]?)(hc:w.cell? ⟨B,o,none⟩=some v):w'.cell? ⟨B,o,none⟩=some v:=by
 simp only[World.cell?]at hc ⊢;rw[h];exact hc
theorem Mk.mslF(h:Mk w base g R N cap vals a){b0:Nat}(hb:b0<=base){k:Nat}(hk:k<=R):Jd b0 w (.slice (some ⟨g,0,none⟩) k cap) (Aw N k a):=fun w' aA=>by
 obtain⟨c1,c2⟩:=h.o.caps;refine⟨vs k vals,?_,fun i r u h1 h2=>?_⟩
 .rw[AU];refine⟨by rw[Bl,Nat.mul_one],some ⟨g,0,none⟩,cap,rfl,ac,c2,fun hn=>⟨g,0,rfl,fun j u hu=>?_⟩⟩;have hj:j<k:=by have:=(List.getElem?_eq_some_iff.1 hu).1;rw[Bl]at this;exact this
  rw[Dh hj]at hu;injection hu with hu;subst hu;rw[Nat.zero_add];have hc:=h.o.cell (j:=j) ac;exact MW (aA g (by have:=h.o.lt.1;omega) (World.block_lt_of_cell? _ _ hc)) hc
 .have hi:i<k:=by have:=(List.getElem?_eq_some_iff.1 h1).1;rw[AU]at this;exact this
  rw[Dm hi]at h1;rw[Dh hi]at h2;injection h1 with h1;injection h2 with h2;subst h1 h2;have hr:=h.row i ac;obtain⟨g1,c,cc,g2,g3,g4,g5⟩:=h.isl (i:=i) ac;refine⟨g1,c,cc,g2,g3,g4,fun hn=>?_⟩;obtain⟨b,o,rfl,g7⟩:=g5 hn;refine⟨b,o,rfl,fun j u hu=>?_⟩;have hc:=g7 j u hu;exact MW (aA b (by have:=(hr.lt b (by rw[g2];rfl)).1;omega) (World.block_lt_of_cell? _ _ hc)) hc
theorem Mk.of{cv:Value}{vl:List Value}(h:BC w base cv (Aw N R a) vl)(hR:1<=R):∃g cap,cv= .slice (some ⟨g,0,none⟩) R cap/\Mk w base g R N cap (fun i=>vl.getD i undef) a:=by
 have hl:vl.length=R:=by rw[h.len,AU]
 have aA:vl=vs R (fun i=>vl.getD i undef):=by
  refine List.ext_getElem? fun j=>?_;by_cases hj:j<R
  .rw[Dh hj,List.getD_eq_getElem?_getD,List.getElem?_eq_getElem ac];rfl
  .rw[List.getElem?_eq_none ac,List.getElem?_eq_none (by rw[Bl];omega)]
 have hc:=h.cvo;rw[AU,aA]at hc;obtain⟨g,cap,e,ho⟩:=JO hc hR;have hv:∀i,i<R->vl[i]?=some (vl.getD i undef):=fun i hi=>by
  exact zcW
 refine⟨g,cap,e,ho,fun i hi=>?_,fun i hi e2=>?_⟩
 .have:=h.row i _ _ (Dm hi) (hv i hi);rw[AJ]at this;exact this
 .have:=h.apart _ (List.mem_of_getElem? (hv i hi));rcases this with h1|h1
  .rw[h1]at e2;cases e2
  .rw[e,e2]at h1;exact h1 rfl
structure LD(w1 wr:World)(base g R N cap:Nat)(vals:Nat->Value)(a:Nat->Nat->Int)(piv:List Nat)(pv:Value):Prop where
 em:Mk wr base g R N cap vals a
 po:wr.ownsRow base 3 1 pv piv.length (An (pI piv))
 pg:pv.ownBlock≠some g
 pa:∀i,i<R->AP (vals i) pv
 hb:w1.heap.size<=base
 ex:Ex w1 wr
variable {w1 wr:World} {piv:List Nat} {pv pv' u:Value} {f:Nat->Int}
theorem LD.later(h:LD w1 wr base g R N cap vals a piv pv)(hx:Ex wr w'):LD w1 w' base g R N cap vals a piv pv:=
 ⟨h.em.ex hx,Ai h.po hx,h.pg,h.pa,h.hb,h.ex.trans hx⟩
theorem LD.fresh(h:LD w1 wr base g R N cap vals a piv pv){b' n:Nat}{e:TypeId}{xs:List Value}(hu:w'.ownsRow wr.heap.size e 1 u n xs):u.ownBlock≠some g/\AP u pv:=by
 have hg:=h.em.o.lt.2;refine⟨fun e2=>?_,?_⟩
 .have:=(hu.lt g e2).1;omega
 .cases e2:u.ownBlock with
  | none=>exact .inl e2
  | some B=>
   right;rw[e2];intro e3;have h1:=(h.po.lt B e3.symm).2;have h2:=(hu.lt B e2).1;omega
theorem LD.set(h:LD w1 wr base g R N cap vals a piv pv){i:Nat}(hu:wr.ownsRow base 3 1 u N (An (il N f)))(hg:u.ownBlock≠some g)(ha:AP u pv):LD w1 (wr.setCell ⟨g,i,none⟩ u) base g R N cap (Ay vals i u) (Ay a i f) piv pv where
 em:=h.em.set hu hg
 po:=Ac h.po h.pg u
 pg:=h.pg
 pa:=fun j hj=>by
  by_cases e:j=i
  .subst e;rw[Ab];exact ha
  .rw[Ad _ _ e];exact h.pa j hj
 hb:=h.hb
 ex:=h.em.exSet h.hb h.ex i u
theorem LD.swp(h:LD w1 wr base g R N cap vals a piv pv){s k:Nat}(hs:s<R)(hk:k<R):LD w1 ((wr.setCell ⟨g,s,none⟩ (vals k)).setCell ⟨g,k,none⟩ (vals s)) base g R N cap (Ay (Ay vals s (vals k)) k (vals s)) (DA a s k) piv pv where
 em:=h.em.swp hs hk
 po:=Ac (Ac h.po h.pg _) h.pg _
 pg:=h.pg
 pa:=fun j hj=>by
  by_cases e:j=k
  .subst e;rw[Ab];exact h.pa s hs
  .rw[Ad _ _ e];by_cases e:j=s
   .subst e;rw[Ab];exact h.pa k hk
   .rw[Ad _ _ e];exact h.pa j hj
 hb:=h.hb
 ex:=(h.em.set (i:=s) (h.em.row k hk) (h.em.ap k hk)).exSet h.hb (h.em.exSet h.hb h.ex s _) k _
theorem LD.app(h:LD w1 wr base g R N cap vals a piv pv){c:Nat}(ha:Bt wr w' base 3 1 pv pv' piv.length (An (pI piv)) [.int .i64 (c:Int)]):LD w1 w' base g R N cap vals a (piv ++ [c]) pv':=by
 have ho:AP (.slice (some ⟨g,0,none⟩) R cap) pv:= .inr fun e=>h.pg e.symm;have h1:=ha.row h.em.o ho;have h2:=fun i hi=>ha.row (h.em.row i hi) (h.pa i hi);refine⟨⟨h1.1,fun i hi=>(h2 i hi).1,h.em.ap⟩,?_,?_,fun i hi=>(h2 i hi).2,h.hb,ha.ex h.ex h.hb⟩
 .have:=ha.own;rw[List.length_append];unfold pI at *;rw[List.map_append];unfold An at *;rw[List.map_append];exact this
 .rcases h1.2 with h3|h3
  .cases h3
  .exact fun e=>h3 e.symm
end
end Go.Proofs.YtehieobniamagaaGreat
