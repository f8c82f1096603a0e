/- Walk of automorphism.Points (printed by gen_pts.py). -/
import Derived.Test.YtehieobniamagaaGreatZi22
namespace Go.Proofs.YtehieobniamagaaGreat
open Nat renaming le_refl→ζ
open List renaming mem_of_getElem?→ι,getElem_of_mem→χ,mem_append→γj,mem_singleton→ϙ,getElem?_eq_none→ϛ
open Go.Value renaming int→γc
open Go.RowKit
set_option linter.all false
set_option maxRecDepth 100000
set_option maxHeartbeats 8000000
def ptE(p m:Int)(ml pl sl:List Int)(fr:Int):Int:=
 if Ef p m ml pl.length pl sl fr≠0 then Ef p m ml pl.length pl sl fr else if fr≠0 then 5 else if 64<pl.length*(p.toNat^m.toNat-1) then 8 else 0
def ptL(p m:Int)(ml pl sl:List Int)(fr:Int):List Int:=if ptE p m ml pl sl fr=0 then J8 p.toNat m.toNat ml pl sl else []
def LeR(L:List Int)(e:Int)(r:Ending)(w':World):Prop:=∃v,r= .returned (.tuple #[v,e])/\Ak w' v L
theorem Om{L L':List Int}{e e':Int}{v:Value}{w':World}(h1:L=L')(h2:e=e')(h:Ak w' v L):LeR L' e' (.returned (.tuple #[v,e])) w':=by subst h1 h2;exact⟨v,rfl,h⟩
theorem zdh{P:Prop}(h:P:=by
 clear aB aA hd;go_simp;exact hK _ (Ex.refl w)):P:=h
theorem zay{P:Prop}(h:P:=by
 refine BB.on rfl fun L a w aB aA hd hx K hK=>?_;have e31:=aB 6 31 _ (hd ⟨6,.data⟩ (by simp) rfl) rfl rfl;exact zdh):P:=h
theorem zck{P:Prop}(h:P:=by
 go_wp2_with fail
 go_ret2;exact⟨Om aF.o.symm HR.o.symm (Bd _),HE.o.trans aK.o⟩):P:=h
theorem zde{P:Prop}(h:P:=by
 rintro e w5⟨rfl,rfl⟩;exact hK _ (Ex.refl _)):P:=h
theorem SK(w:World)(p m:Int)(ml:List Int)(mv:Value)(aM:Ak w mv ml)(pl sl:List Int)(pv sv:Value)(hp:Ak w pv pl)(hs:Ak w sv sl)(fr:Int):
  Calls Tryz.prog 15 #[.agg #[p,m,mv],.agg #[pv,sv,fr]] w fun r w'=>LeR (ptL p m ml pl sl fr) (ptE p m ml pl sl fr) r w'/\Ex w w':=by
 obtain⟨a0,a1,a2,ea⟩:=H6 w p m mv;obtain⟨b0,b1,b2,eb⟩:=BA (w.alloc (.cells #[p,m,mv] 24)) pv sv fr;replace a0:=eb.cell a0;replace a1:=eb.cell a1;replace a2:=eb.cell a2;have HE:=Aa (ea.trans eb);have bD:=Aa (aM.ex HE.o);have HP:=Aa (hp.ex HE.o);have HS:=Aa (hs.ex HE.o);obtain⟨ma,mc,rfl,_,_,_⟩:=aM.open;obtain⟨pa,pc,rfl,_,z2,_⟩:=hp.open;obtain⟨sa,sc,rfl,_,_,_⟩:=hs.open;unfold maxLen at z2;have aY:(w.alloc (.cells #[p,m,(ma,ml.length,mc)] 24)).heap.size=w.heap.size+1:=ag;rw[aY]at b0 b1 b2;obtain⟨B,hB⟩:=nA w.heap.size;rw[hB]at a0 a1 a2 b0 b1 b2;obtain⟨E,hE⟩:=nA (Ef p m ml pl.length pl sl fr);obtain⟨bL,aC,aE,bE⟩:=Of hE (show ptE p m ml pl sl fr=if E≠0 then E else if fr≠0 then 5 else if 64<pl.length*(p.toNat^m.toNat-1) then 8 else 0 from by unfold ptE;rw[hE]) (show ptL p m ml pl sl fr=if ptE p m ml pl sl fr=0 then J8 p.toNat m.toNat ml pl sl else [] from rfl) (fun (h:E=0)=>RY (hE.trans h));obtain⟨PE,aX⟩:∃x,ptE p m ml pl sl fr=x:=⟨_,rfl⟩;obtain⟨PL,aW⟩:∃x,ptL p m ml pl sl fr=x:=⟨_,rfl⟩;rw[aX]at aC aE ⊢;rw[aW]at aE ⊢;have aS:=Aa (fun w1 (h:Ex ((w.alloc (.cells #[p,m,(ma,ml.length,mc)] 24)).alloc (.cells #[(pa,pl.length,pc),(sa,sl.length,sc),fr] 26)) w1)=>Sq w1 p m ml _ (bD.o.ex h) pl.length pl sl _ _ (HP.o.ex h) (HS.o.ex h) fr);rw[hE]at aS;clear hE aX aW aM hp hs aY ea eb;have aZ:=Aa b0;go_enter Tryz.func15,Tryz.ntmps15
 go_upto_region 1 with fail
 try simp only[hB]
 clear hB;generalize (w.alloc (.cells #[p,m,(ma,ml.length,mc)] 24)).alloc (.cells #[(pa,pl.length,pc),(sa,sl.length,sc),fr] 26)=w1 at *;go_wp2_with fail
 refine(aS.o w1 (Ex.refl _)).mono ?_;rintro e w2⟨rfl,aD⟩;have aK:=Aa aD;replace a0:=aD.cell a0;replace a1:=aD.cell a1;replace a2:=aD.cell a2;replace b0:=aD.cell b0;replace b1:=aD.cell b1;replace b2:=aD.cell b2;clear aD;by_cases h0:E=0
 rotate_left
 .have hb:(E !=0)=true:=by simpa using h0
  have HR:Hia (PE=E):=Aa (by rw[aC.o,if_pos h0]);have aF:Hia (PL= []):=Aa (by rw[aE.o,if_neg (by rw[HR.o];exact h0)]);clear h0;exact zck
 .obtain⟨n1,n2,n3,n4,n5,n6,n7,n8,n9,bF⟩:=bE.o h0;subst h0;by_cases hf:fr=0
  rotate_left
  .have hb:(fr !=0)=true:=by simpa using hf
   have HR:Hia (PE=5):=Aa (by rw[aC.o,if_neg ag,if_pos hf]);have aF:Hia (PL= []):=Aa (by rw[aE.o,if_neg (by rw[HR.o];decide)]);clear hf;exact zck
  .subst hf;have bC:=Aa (FV p m ml _ w2 (bD.o.ex aK.o));have bJ:Hia (sl.length=pl.length):=Aa (ac);have aR:Hia (pl.length<=64):=Aa (ac);go_wp2_with fail
   refine bC.o.mono ?_;rintro e w3⟨bH,aH⟩;rcases bH with⟨pn,mn,x0,gb,rfl,rfl,rfl,hg,x1,x2⟩|⟨hbad,-⟩
   rotate_left
   .exact absurd ((BU p m ml).1 n1) hbad
   have aJ:=Aa (aK.o.trans aH);replace b0:=aH.cell b0;replace b1:=aH.cell b1;replace b2:=aH.cell b2;have aZ:=Aa b0;have HG:=Aa hg;replace aC:=Aa (show PE=if ((0:Int)≠0) then(0:Int) else if ((0:Int)≠0) then 5 else if 64<pl.length*(pn^mn-1) then 8 else 0 from aC.o);replace aE:=Aa (show PL=if PE=0 then J8 pn mn ml pl sl else [] from aE.o);have bG:2<=pn^mn:=Nat.le_trans hg.sh.p2 (Nat.le_self_pow (by have:=hg.sh.m1;omega) pn);have aU:=hg.sh.q;have aI:=aR.o;have aQ:=Aa (fun (w5:World) (h5:Ex w3 w5) (hd:pl.length*(pn^mn-1)<=64)=>RS w5 (HG.o.ex h5) pl.length aI pl sl _ _ (HP.o.ex (aJ.o.trans h5)) (HS.o.ex (aJ.o.trans h5)) rfl bJ.o n6 hd 0);have bB:=Aa (fun (w5:World) (h5:Ex w3 w5)=>Cv w5 (HG.o.ex h5));have aL:=Aa (fun (w5:World)=>Hu w5 pl.length (pn^mn) aI ac aU);obtain⟨q,hq⟩:=nA (pn^mn);have aP:Hia (J8 pn mn ml pl sl=il (pl.length*(pn^mn-1)) (Pi pn mn ml pl sl)):=Aa (rfl);rw[hq]at aC aQ bB aL aP bG aU;obtain⟨D,hD⟩:=nA (pl.length*(q-1));rw[hD]at aC aQ aL aP;obtain⟨T0,aV⟩:∃z,((if 64<D then 0 else D:Nat):Int)=z:=⟨_,rfl⟩;obtain⟨T1,aN⟩:∃z,(if 64<D then(8:Int) else 0)=z:=⟨_,rfl⟩;rw[aV,aN]at aL;have bA:=Aa aN;clear aV aN hD hq aH hg x1 x2 n1 n2 n3 n4 n5 n6 n7 n8 n9 bF bC bE bL aS;go_wp2_with fail
   go_upto_region 9 with fail
   refine BR (fun k=>([.pointer (some (B+1,0)),.slice pa pl.length pc,.int .i64 (pl.length:Int),.pointer (some (gb,0)),.int .i64 (q:Int),.tuple #[T0,T1],.tuple #[T0,T1],.int .i64 T0,.int .i64 T1,.int .i64 T0,.int .i64 T1]:List Value).getD k undef) ah ah ah ?_ ?_
   .simp only[AH];refine⟨?_,?_,?_,?_,?_,?_,?_,?_,?_,?_,?_,trivial⟩
    .refine BB.on rfl fun L a w aB aA hd hx K hK=>?_;have e3:a.tmps[3]?=some (.pointer (some (B+1,0))):=aA 3 ah;exact zdh
    .refine BB.on rfl fun L a w aB aA hd hx K hK=>?_;have e32:=aB 0 32 _ (hd ⟨0,.data⟩ ag rfl) rfl rfl;have c1:=hx.cell aZ.o;exact zdh
    .refine BB.on rfl fun L a w aB aA hd hx K hK=>?_;have e33:=aB 1 33 _ (hd ⟨1,.data⟩ ag rfl) rfl rfl;exact zdh
    .refine BB.on rfl fun L a w aB aA hd hx K hK=>?_;have e7:a.tmps[7]?=some (.pointer (some (gb,0))):=aA 7 ah;exact zdh
    .refine BB.on rfl fun L a w aB aA hd hx K hK=>?_;have e35:=aB 3 35 _ (hd ⟨3,.data⟩ ag rfl) rfl rfl;clear aB aA hd;go_simp;refine(bB.o _ hx).mono ?_;exact zde
    .refine BB.on rfl fun L a w aB aA hd hx K hK=>?_;have e34:=aB 2 34 _ (hd ⟨2,.data⟩ ag rfl) rfl rfl;have e36:=aB 4 36 _ (hd ⟨4,.data⟩ ag rfl) rfl rfl;clear aB aA hd;go_simp;refine(aL.o _).mono ?_;exact zde
    .refine BB.on rfl fun L a w aB aA hd hx K hK=>?_;have e37:=aB 5 37 _ (hd ⟨5,.data⟩ ag rfl) rfl rfl;exact zdh
    .exact zay
    .exact zay
    .refine BB.on rfl fun L a w aB aA hd hx K hK=>?_;have e38:=aB 7 38 _ (hd ⟨7,.data⟩ ag rfl) rfl rfl;exact zdh
    .refine BB.on rfl fun L a w aB aA hd hx K hK=>?_;have e39:=aB 8 39 _ (hd ⟨8,.data⟩ ag rfl) rfl rfl;exact zdh
   .intro w5 aG;simp only[Cg,Act.put,List.setIfInBounds_toArray,List.set_cons_zero,List.set_cons_succ];have aO:=Aa aG;replace b0:=aG.cell b0;replace b1:=aG.cell b1;replace b2:=aG.cell b2;clear aG;by_cases hD:64<D
    .have hT:T1=8:=by rw[<-bA.o,if_pos hD]
     subst hT;have HR:Hia (PE=8):=Aa (by rw[aC.o,if_neg ag,if_neg ag,if_pos hD]);have aF:Hia (PL= []):=Aa (by rw[aE.o,if_neg (by rw[HR.o];decide)]);clear hD;go_wp2_with fail
     go_ret2;exact⟨Om aF.o.symm HR.o.symm (Bd _),HE.o.trans (aJ.o.trans aO.o)⟩
    .have hT:T1=0:=by rw[<-bA.o,if_neg hD]
     subst hT;have HR:Hia (PE=0):=Aa (by rw[aC.o,if_neg ag,if_neg ag,if_neg hD]);have aF:Hia (PL=J8 pn mn ml pl sl):=Aa (by rw[aE.o,if_pos HR.o]);have bK:=Aa (aQ.o w5 aO.o ac);clear hD;go_wp2_with fail
     refine bK.o.mono ?_;rintro e w6⟨v,rfl,hv,aT⟩;have HV:Hia (Ak w6 v PL):=Aa (by rw[aF.o,aP.o];unfold Ak;rw[Ao,Cy];exact Sl.own hv);have bI:=Aa (aO.o.trans aT);obtain⟨va,vc,rfl⟩:=Ad hv;clear hv aT;go_wp2_with fail
     go_ret2;exact⟨Om rfl HR.o.symm HV.o,HE.o.trans (aJ.o.trans bI.o)⟩
structure Tw where
 R:Nat->Nat->Option (Nat->Nat)
 g:Nat->List (Nat->Nat)
def DR(n:Nat)(R:Nat->Nat->Option (Nat->Nat)):Nat->Nat->(Nat->Nat)->(Nat->Nat) × Nat
 | 0,b,f=>(f,b)
 | k+1,b,f=>match R b (f b) with
  | none=>(f,b)
  | some r=>DR n R k (b+1) (Ap f (A8 n r))
def Sf(n:Nat)(R:Nat->Nat->Option (Nat->Nat)):Nat->Nat->(Nat->Nat)->Prop
 | 0,_,_=>True
 | k+1,b,f=>∃r,R b (f b)=some r/\Sf n R k (b+1) (Ap f (A8 n r))
theorem MT(n:Nat)(R:Nat->Nat->Option (Nat->Nat)):∀k b f,b<=(DR n R k b f).2/\(DR n R k b f).2<=b+k
 | 0,b,f=>⟨ζ _,ζ _⟩
 | k+1,b,f=>by
  unfold DR;split
  .exact⟨ζ _,by dsimp only;omega⟩
  .have:=MT n R k (b+1) (Ap f (A8 n ‹_›));omega
theorem Rq(n:Nat)(R:Nat->Nat->Option (Nat->Nat)):∀k b f,Sf n R k b f↔(DR n R k b f).2=b+k
 | 0,b,f=>⟨fun _=>rfl,fun _=>trivial⟩
 | k+1,b,f=>by
  unfold DR Sf
  cases h:R b (f b) with
  | none=>exact⟨fun ⟨r,h1,_⟩=>by exact(nomatch h1),fun h1=>by have h1:b=b+(k+1):=h1;omega⟩
  | some r=>
   dsimp only;rw[show b+(k+1)=b+1+k by omega,<-Rq n R k (b+1)];exact⟨fun ⟨r',h1,h2⟩=>by injection h1 with h1;subst h1;exact h2,fun h=>⟨r,rfl,h⟩⟩
theorem Sf.mono{n:Nat}{R R':Nat->Nat->Option (Nat->Nat)}(hR:∀b x r,R b x=some r->R' b x=some r):∀ {k b f},Sf n R k b f->Sf n R' k b f
 | 0,_,_,_=>trivial
 | k+1,b,f,⟨r,h1,h2⟩=>⟨r,hR _ _ _ h1,h2.mono hR⟩
theorem Sf.congr{n c:Nat}{R R':Nat->Nat->Option (Nat->Nat)}(hR:∀b x,c<=b->R b x=R' b x):∀ {k b f},c<=b->Sf n R k b f->Sf n R' k b f
 | 0,_,_,_,_=>trivial
 | k+1,b,f,hb,⟨r,h1,h2⟩=>⟨r,by rw[<-hR b _ hb];exact h1,h2.congr hR (by omega)⟩
structure Db(n:Nat)(t:Tw):Prop where
 rep:∀b x r,t.R b x=some r->b<n/\x<n/\Bo n r/\AU b r/\r b=x
 one:∀b,b<n->t.R b b=some Ep
 gen:∀b h,h∈t.g b->Bo n h/\AU b h
theorem We{n:Nat}{t:Tw}(hG:Db n t):∀k b,b+k<=n->Sf n t.R k b Ep
 | 0,_,_=>trivial
 | k+1,b,h=>⟨Ep,hG.one b (by omega),by rw[Ox];exact We hG k (b+1) (by omega)⟩
def FE(n:Nat)(R:Nat->Nat->Option (Nat->Nat))(b:Nat)(q:Nat->Nat):Prop:=
 ∃r,R b (q b)=some r/\Sf n R (n-(b+1)) (b+1) (Ap q (A8 n r))
theorem FE.mono{n b:Nat}{R R':Nat->Nat->Option (Nat->Nat)}(hR:∀b x r,R b x=some r->R' b x=some r){q:Nat->Nat}(h:FE n R b q):FE n R' b q:=by
 obtain⟨r,h1,h2⟩:=h;exact⟨r,hR _ _ _ h1,h2.mono hR⟩
theorem FE.congr{n b:Nat}{R R':Nat->Nat->Option (Nat->Nat)}(hR:∀c x,b<=c->R c x=R' c x){q:Nat->Nat}(h:FE n R b q):FE n R' b q:=by
 obtain⟨r,h1,h2⟩:=h;exact⟨r,by rw[<-hR b _ (ζ _)];exact h1,h2.congr hR ac⟩
structure DP(n:Nat)(t:Tw)(c:Nat):Prop where
 done:∀x r,t.R c x=some r->∀h∈t.g c,FE n t.R c (Ap r h)
 rep:∀c' x r,c<=c'->t.R c' x=some r->Gn (t.g c) r
 gen:∀c' h,c<=c'->h∈t.g c'->Gn (t.g c) h
theorem DP.congr{n c:Nat}{t t':Tw}(h:DP n t c)(hR:∀b x,c<=b->t.R b x=t'.R b x)(hg:∀b,c<=b->t.g b=t'.g b):DP n t' c:=
 ⟨fun x r hr k hk=>(h.done x r (by rw[hR _ _ (ζ _)];exact hr) k (by rw[hg _ (ζ _)];exact hk)).congr hR,
 fun c' x r hc hr=>by rw[<-hg _ (ζ _)];exact h.rep c' x r hc (by rw[hR _ _ hc];exact hr),
 fun c' k hc hk=>by rw[<-hg _ (ζ _)];exact h.gen c' k hc (by rw[hg _ hc];exact hk)⟩
theorem Wd{n:Nat}{t:Tw}{H:(Nat->Nat)->Prop}(hG:Db n t)(hH:Yw n H):∀k b f,b+k=n->(∀c x r,b<=c->t.R c x=some r->H r)->Bo n f->AU b f->Sf n t.R k b f->H f
 | 0,b,f,hb,_,hP,hF,_=>by
  have:b=n:=ac;subst this;rw[hF.all hP];exact hH.one
 | k+1,b,f,hb,hr,hP,hF,⟨r,h1,h2⟩=>by
  obtain⟨_,_,h3,h4,h5⟩:=hG.rep _ _ _ h1;have:=Wd hG hH k (b+1) (Ap f (A8 n r)) ac (fun c x r' hc=>hr c x r' ac) (hP.comp h3.inv) (hF.div h3 h4 h5) h2;have h6:=hH.mul _ _ this (hr _ _ _ (ζ _) h1)
  rwa[h3.cancel]at h6
theorem Wf{n:Nat}{t:Tw}(hG:Db n t):∀k b,b+(k+1)=n->(∀c,b<=c->c<n->DP n t c)->∀f,Bo n f->AU b f->(Sf n t.R (k+1) b f↔Gn (t.g b) f)
 | k,b,hb,hC,f,hP,hF=>by
  have aG:Yw n (Gn (t.g b)):=Gn.grp fun s hs=>(hG.gen _ _ hs).1;refine⟨fun h=>Wd hG aG (k+1) b f hb (fun c x r hc hr=>(hC b (ζ _) ac).rep c x r hc hr) hP hF h,fun h=>?_⟩;clear hF hP
  induction h with
  | one=>exact We hG _ _ ac
  | @step f s hf hs ih=>
   have aD:=hf.isP fun s hs=>(hG.gen _ _ hs).1;have aE:AU b f:=by
    clear ih
    induction hf with
    | one=>exact Hz _
    | step hf' hs' ih'=>exact(ih' (hf'.isP fun s hs=>(hG.gen _ _ hs).1)).comp (hG.gen _ _ hs').2
   obtain⟨r,h1,h2⟩:=ih;obtain⟨_,_,h3,h4,h5⟩:=hG.rep _ _ _ h1;obtain⟨r',h6,h7⟩:=(hC b (ζ _) ac).done _ _ h1 s hs;obtain⟨_,_,h8,h9,aH⟩:=hG.rep _ _ _ h6;have aA:=(hG.gen _ _ hs);have e1:(Ap r s) b=(Ap f s) b:=by show s (r b)=s (f b);rw[h5]
   refine⟨r',by rw[<-e1];exact h6,?_⟩;have e2:Ap (Ap f s) (A8 n r')=Ap (Ap f (A8 n r)) (Ap (Ap r s) (A8 n r')):=by
    conv=>lhs;rw[<-h3.cancel (f:=f)]
    rfl
   rw[e2];have hk:n-(b+1)=k:=ac;rw[hk]at h7;have hA:=aE.div h3 h4 h5;have hB:AU (b+1) (Ap (Ap r s) (A8 n r')):=(h4.comp aA.2).div h8 h9 (by rw[aH]);have aC:=aD.comp h3.inv;have aB:=(h3.comp aA.1).comp h8.inv
   cases k with
   | zero=>trivial
   | succ k=>
    have IH:=Wf hG k (b+1) ac fun c hc aF=>hC c ac aF;exact(IH _ (aC.comp aB) (hA.comp hB)).2 (((IH _ aC hA).1 h2).mul ((IH _ aB hB).1 h7))
def JZ(H:(Nat->Nat)->Prop)(b:Nat)(t:Tw):Prop:=(∀c x r,b<=c->t.R c x=some r->H r)/\∀c h,b<=c->h∈t.g c->H h
theorem JZ.up{H:(Nat->Nat)->Prop}{b c:Nat}{t:Tw}(h:JZ H b t)(hc:b<=c):JZ H c t:=⟨fun c' x r h1=>h.1 c' x r ac,fun c' x h1=>h.2 c' x ac⟩
def IP(b:Nat)(t t':Tw):Prop:=∀c,c<b->(∀x,t'.R c x=t.R c x)/\t'.g c=t.g c
theorem IP.refl(b:Nat)(t:Tw):IP b t t:=fun _ _=>⟨fun _=>rfl,rfl⟩
theorem IP.trans{b:Nat}{t u v:Tw}(h:IP b t u)(k:IP b u v):IP b t v:=fun c hc=>⟨fun x=>by rw[(k c hc).1,(h c hc).1],by rw[(k c hc).2,(h c hc).2]⟩
theorem IP.down{b c:Nat}{t u:Tw}(h:IP b t u)(hc:c<=b):IP c t u:=fun d hd=>h d ac
def ST(t t':Tw):Prop:=∀b x r,t.R b x=some r->t'.R b x=some r
theorem ST.trans{t u v:Tw}(h:ST t u)(k:ST u v):ST t v:=fun b x r hr=>k b x r (h b x r hr)
structure Re(n b:Nat)(p:Nat->Nat)(t t':Tw):Prop where
 good:Db n t'
 low:IP b t t'
 le:ST t t'
 comp:∀c,b<=c->c<n->DP n t' c
 mem:Sf n t'.R (n-b) b p
 snd:∀H,Yw n H->JZ H b t->H p->JZ H b t'
structure Yp(n b:Nat)(q:Nat->Nat)(t t':Tw):Prop where
 good:Db n t'
 low:IP b t t'
 le:ST t t'
 gb:t'.g b=t.g b
 comp:∀c,b+1<=c->c<n->DP n t' c
 done:FE n t'.R b q
 new:∀x r,t.R b x=none->t'.R b x=some r->∀h∈t.g b,FE n t'.R b (Ap r h)
 snd:∀H,Yw n H->JZ H b t->H q->JZ H b t'
theorem Re.same{n b:Nat}{p:Nat->Nat}{t:Tw}(hG:Db n t)(hC:∀c,b<=c->c<n->DP n t c)(h:Sf n t.R (n-b) b p):Re n b p t t:=
 ⟨hG,IP.refl _ _,fun _ _ _ h=>h,hC,h,fun _ _ h _=>h⟩
theorem Re.vis{n b:Nat}{q r:Nat->Nat}{t t':Tw}(hb:b<n)(hG:Db n t)(hr:t.R b (q b)=some r)(h:Re n (b+1) (Ap q (A8 n r)) t t'):Yp n b q t t':=
 ⟨h.good,h.low.down ac,h.le,(h.low b ac).2,h.comp,⟨r,h.le _ _ _ hr,h.mem⟩,fun x r' h1 h2=>by
  rw[(h.low b ac).1 x,h1]at h2;exact(nomatch h2),fun H hH hS hq=>by
  have h1:=h.snd H hH (hS.up ac) (hH.mul _ _ hq (hH.inv _ (hS.1 _ _ _ (ζ _) hr)));refine⟨fun c x r' hc aA=>?_,fun c k hc hk=>?_⟩
  .by_cases e:c=b
   .subst e;rw[(h.low c ac).1 x]at aA;exact hS.1 c x r' (ζ _) aA
   .exact h1.1 c x r' ac aA
  .by_cases e:c=b
   .subst e;rw[(h.low c ac).2]at hk;exact hS.2 c k (ζ _) hk
   .exact h1.2 c k ac hk⟩
def Ml(t:Tw)(b x:Nat)(q:Nat->Nat):Tw:=⟨fun c y=>if c=b/\y=x then some q else t.R c y,t.g⟩
def SF(t:Tw)(b:Nat)(p:Nat->Nat):Tw:=⟨t.R,fun c=>if c=b then t.g c ++ [p] else t.g c⟩
structure O7(n b:Nat)(q:Nat->Nat)(t t':Tw)(k:Nat):Prop where
 good:Db n t'
 low:IP b t t'
 le:ST t t'
 gb:t'.g b=t.g b
 comp:∀c,b+1<=c->c<n->DP n t' c
 rep:t'.R b (q b)=some q
 done:∀j h,j<k->(t.g b)[j]?=some h->FE n t'.R b (Ap q h)
 new:∀x r,x≠q b->t.R b x=none->t'.R b x=some r->∀h∈t.g b,FE n t'.R b (Ap r h)
 snd:∀H,Yw n H->JZ H b t->H q->JZ H b t'
theorem O7.start{n b:Nat}{q:Nat->Nat}{t:Tw}(hb:b<n)(hG:Db n t)(hC:∀c,b+1<=c->c<n->DP n t c)(hP:Bo n q)(hF:AU b q)(hr:t.R b (q b)=none):O7 n b q t (Ml t b (q b) q) 0:=by
 have aA:ST t (Ml t b (q b) q):=fun c x r h=>by
  show(if c=b/\x=q b then some q else t.R c x)=some r
  split
  .rename_i e;rw[e.1,e.2,hr]at h;cases h
  .exact h
 refine⟨⟨fun c x r h=>?_,fun c hc=>aA _ _ _ (hG.one c hc),hG.gen⟩,fun c hc=>⟨fun x=>?_,rfl⟩,aA,rfl,fun c hc aB=>(hC c hc aB).congr (fun d x hd=>?_) (fun _ _=>rfl),?_,fun j h hj=>ac,fun x r hx h1 h2=>?_,fun H hH hS hq=>⟨fun c x r hc h=>?_,hS.2⟩⟩
 .have h:(if c=b/\x=q b then some q else t.R c x)=some r:=h;split at h
  .rename_i e;injection h with h;subst h;rw[e.1,e.2];exact⟨hb,hP.lt _ hb,hP,hF,rfl⟩
  .exact hG.rep c x r h
 .show(if c=b/\x=q b then some q else t.R c x)=t.R c x
  rw[if_neg ac]
 .show t.R d x=(if d=b/\x=q b then some q else t.R d x)
  rw[if_neg ac]
 .show(if b=b/\q b=q b then some q else t.R b (q b))=some q
  rw[if_pos ⟨rfl,rfl⟩]
 .have h2:(if b=b/\x=q b then some q else t.R b x)=some r:=h2;rw[if_neg (fun e=>hx e.2),h1]at h2;cases h2
 .have h:(if c=b/\x=q b then some q else t.R c x)=some r:=h;split at h
  .injection h with h;subst h;exact hq
  .exact hS.1 c x r hc h
theorem O7.step{n b k:Nat}{q h:Nat->Nat}{t u v:Tw}(hl:O7 n b q t u k)(hk:(t.g b)[k]?=some h)(hv:Yp n b (Ap q h) u v):O7 n b q t v (k+1):=
 ⟨hv.good,hl.low.trans hv.low,hl.le.trans hv.le,by rw[hv.gb,hl.gb],hv.comp,hv.le _ _ _ hl.rep,fun j s hj hs=>by
  by_cases e:j=k
  .subst e;rw[hk]at hs;injection hs with hs;subst hs;exact hv.done
  .exact(hl.done j s ac hs).mono hv.le,fun x r hx h1 h2 s hs=>by
  cases hu:u.R b x with
  | none=>exact hv.new x r hu h2 s (by rw[hl.gb];exact hs)
  | some r'=>
   have h3:=hv.le _ _ _ hu;rw[h2]at h3;injection h3 with h3;subst h3;exact(hl.new x r hx h1 hu s hs).mono hv.le,fun H hH hS hq=>by
  have h1:=hl.snd H hH hS hq;exact hv.snd H hH h1 (hH.mul _ _ hq (h1.2 b h (ζ _) (by rw[hl.gb];exact ι hk)))⟩
theorem O7.fin{n b k:Nat}{q:Nat->Nat}{t u:Tw}(hb:b<n)(hP:Bo n q)(hl:O7 n b q t u k)(hk:(t.g b).length<=k):Yp n b q t u:=
 ⟨hl.good,hl.low,hl.le,hl.gb,hl.comp,⟨q,hl.rep,by rw[hP.then_inv];exact We hl.good _ _ ac⟩,fun x r h1 h2 s hs=>by
  by_cases e:x=q b
  .subst e;rw[hl.rep]at h2;injection h2 with h2;subst h2;obtain⟨j,hj,e⟩:=χ hs;exact hl.done j s ac ar
  .exact hl.new x r e h1 h2 s hs,hl.snd⟩
structure J0(n b:Nat)(p:Nat->Nat)(t t':Tw)(x:Nat):Prop where
 good:Db n t'
 low:IP b t t'
 le:ST t t'
 gb:t'.g b=t.g b ++ [p]
 comp:∀c,b+1<=c->c<n->DP n t' c
 old:∀y r,y<x->t.R b y=some r->FE n t'.R b (Ap r p)
 new:∀y r,t.R b y=none->t'.R b y=some r->∀h∈t'.g b,FE n t'.R b (Ap r h)
 snd:∀H,Yw n H->JZ H b t->H p->JZ H b t'
theorem J0.start{n b:Nat}{p:Nat->Nat}{t:Tw}(hG:Db n t)(hC:∀c,b+1<=c->c<n->DP n t c)(hP:Bo n p)(hF:AU b p):J0 n b p t (SF t b p) 0:=by
 refine⟨⟨hG.rep,hG.one,fun c h hh=>?_⟩,fun c hc=>⟨fun _=>rfl,?_⟩,fun _ _ _ h=>h,?_,fun c hc aA=>(hC c hc aA).congr (fun _ _ _=>rfl) (fun d hd=>?_),fun y r hy=>ac,fun y r h1 h2=>?_,fun H hH hS hp=>⟨hS.1,fun c h hc hh=>?_⟩⟩
 .have h2:h∈(if c=b then t.g c ++ [p] else t.g c):=hh;by_cases e:c=b
  .subst e;rw[if_pos rfl]at h2;rcases γj.1 h2 with h1|h1
   .exact hG.gen c h h1
   .rw[ϙ.1 h1];exact⟨hP,hF⟩
  .rw[if_neg e]at h2;exact hG.gen c h h2
 .show(if c=b then t.g c ++ [p] else t.g c)=t.g c
  rw[if_neg ac]
 .show(if b=b then t.g b ++ [p] else t.g b)=_
  rw[if_pos rfl]
 .show t.g d=(if d=b then t.g d ++ [p] else t.g d)
  rw[if_neg ac]
 .have h2:t.R b y=some r:=h2;rw[h1]at h2;cases h2
 .have hh:h∈(if c=b then t.g c ++ [p] else t.g c):=hh;split at hh
  .rcases γj.1 hh with h1|h1
   .exact hS.2 c h hc h1
   .rw[ϙ.1 h1];exact hp
  .exact hS.2 c h hc hh
theorem J0.skip{n b x:Nat}{p:Nat->Nat}{t u:Tw}(hl:J0 n b p t u x)(h:t.R b x=none):J0 n b p t u (x+1):=
 ⟨hl.good,hl.low,hl.le,hl.gb,hl.comp,fun y r hy hr=>by
  by_cases e:y=x
  .subst e;rw[h]at hr;cases hr
  .exact hl.old y r ac hr,hl.new,hl.snd⟩
theorem J0.step{n b x:Nat}{p r:Nat->Nat}{t u v:Tw}(hl:J0 n b p t u x)(hr:t.R b x=some r)(hv:Yp n b (Ap r p) u v):J0 n b p t v (x+1):=
 ⟨hv.good,hl.low.trans hv.low,hl.le.trans hv.le,by rw[hv.gb,hl.gb],hv.comp,fun y r' hy aA=>by
  by_cases e:y=x
  .subst e;rw[hr]at aA;injection aA with aA;subst aA;exact hv.done
  .exact(hl.old y r' ac aA).mono hv.le,fun y r' h1 h2 s hs=>by
  rw[hv.gb]at hs
  cases hu:u.R b y with
  | none=>exact hv.new y r' hu h2 s hs
  | some r''=>
   have h3:=hv.le _ _ _ hu;rw[h2]at h3;injection h3 with h3;subst h3;exact(hl.new y r' h1 hu s hs).mono hv.le,fun H hH hS hp=>by
  have h1:=hl.snd H hH hS hp;exact hv.snd H hH h1 (hH.mul _ _ (h1.1 _ _ _ (ζ _) (hl.le _ _ _ hr)) hp)⟩
theorem J0.fin{n b x:Nat}{p:Nat->Nat}{t u:Tw}(hb:b<n)(hG:Db n t)(hC:∀c,b<=c->c<n->DP n t c)(hP:Bo n p)(hF:AU b p)(hl:J0 n b p t u x)(hx:n<=x):Re n b p t u:=by
 have aE:Yw n (Gn (u.g b)):=Gn.grp fun s hs=>(hl.good.gen _ _ hs).1;have hp:Gn (u.g b) p:=Gn.of (by rw[hl.gb];simp);have aA:∀f,Gn (t.g b) f->Gn (u.g b) f:=fun f hf=>hf.mono fun s hs=>Gn.of (by rw[hl.gb];exact List.mem_append_left _ hs);have hS:=hl.snd _ aE ⟨fun c x r hc hr=>aA _ ((hC b (ζ _) hb).rep c x r hc hr),fun c k hc hk=>aA _ ((hC b (ζ _) hb).gen c k hc hk)⟩ hp;have aD:DP n u b:=⟨fun y r hr s hs=>by
   cases h:t.R b y with
   | none=>exact hl.new y r h hr s hs
   | some r'=>
    have h3:=hl.le _ _ _ h;rw[hr]at h3;injection h3 with h3;subst h3;rw[hl.gb]at hs;rcases γj.1 hs with h1|h1
    .exact((hC b (ζ _) hb).done y r h s h1).mono hl.le
    .rw[ϙ.1 h1];exact hl.old y r (by have:=(hG.rep _ _ _ h).2.1;omega) h,hS.1,hS.2⟩
 have aB:∀c,b<=c->c<n->DP n u c:=fun c hc aC=>by
  by_cases e:c=b
  .subst e;exact aD
  .exact hl.comp c ac aC
 refine⟨hl.good,hl.low,hl.le,aB,?_,hl.snd⟩;obtain⟨k,hk⟩:∃k,n-b=k+1:=⟨n-b-1,ac⟩;rw[hk];exact(Wf hl.good k b ac aB p hP hF).2 hp
def Og(n:Nat):Tw:=⟨fun b x=>if b<n/\x=b then some Ep else none,fun _=> []⟩
theorem U9(n:Nat):Db n (Og n):=
 ⟨fun b x r h=>by
  have h:(if b<n/\x=b then some Ep else none)=some r:=h;split at h
  .rename_i e;injection h with h;subst h;exact⟨e.1,ac,Fe n,Hz _,e.2.symm⟩
  .exact(nomatch h),fun b hb=>by
  show(if b<n/\b=b then some Ep else none)=some Ep
  rw[if_pos ⟨hb,rfl⟩],fun _ _ h=>by cases h⟩
theorem Va(n c:Nat):DP n (Og n) c:=
 ⟨fun _ _ _ _ h=>by (first|cases h|exact absurd h (List.not_mem_nil)),fun c' x r _ h=>by
  have h:(if c'<n/\x=c' then some Ep else none)=some r:=h;split at h
  .injection h with h;subst h;exact .one
  .exact(nomatch h),fun _ _ _ h=>by cases h⟩
structure IR(n:Nat)(S:List (Nat->Nat))(t:Tw)(k:Nat):Prop where
 good:Db n t
 comp:∀c,c<n->DP n t c
 mem:∀j s,j<k->S[j]?=some s->Sf n t.R n 0 s
 snd:JZ (Gn S) 0 t
theorem IR.start{n:Nat}{S:List (Nat->Nat)}:IR n S (Og n) 0:=
 ⟨U9 n,fun c _=>Va n c,fun j s h=>ac,fun c x r _ h=>by
  have h:(if c<n/\x=c then some Ep else none)=some r:=h;split at h
  .injection h with h;subst h;exact .one
  .exact(nomatch h),fun _ _ _ h=>by cases h⟩
theorem IR.step{n k:Nat}{S:List (Nat->Nat)}{t t':Tw}{s:Nat->Nat}(hS:∀s∈S,Bo n s)(h:IR n S t k)(hs:S[k]?=some s)(hi:Re n 0 s t t'):IR n S t' (k+1):=
 ⟨hi.good,fun c hc=>hi.comp c ac hc,fun j s' hj aA=>by
  by_cases e:j=k
  .subst e;rw[hs]at aA;injection aA with aA;subst aA;exact hi.mem
  .exact(h.mem j s' ac aA).mono hi.le,hi.snd _ (Gn.grp hS) h.snd (Gn.of (ι hs))⟩
theorem sf_up{n:Nat}{t:Tw}(hG:Db n t){f:Nat->Nat}:∀k b,b+k=n->AU b f->(Sf n t.R n 0 f↔Sf n t.R k b f):=by
 intro k b
 induction b generalizing k with
 | zero=>intro h _;rw[show k=n by omega]
 | succ b ih=>
  intro h hF;rw[ih (k+1) ac (fun i hi=>hF i ac)];have hb:f b=b:=hF b ac;have h1:=hG.one b ac;constructor
  .rintro⟨r,h2,h3⟩;rw[hb,h1]at h2;injection h2 with h2;subst h2;rw[Ox]at h3;exact h3
  .intro h3;exact⟨Ep,by rw[hb];exact h1,by rw[Ox];exact h3⟩
theorem IR.grp{n k:Nat}{S:List (Nat->Nat)}{t:Tw}(hn:1<=n)(hS:∀s∈S,Bo n s)(h:IR n S t k)(hk:S.length<=k){b:Nat}(hb:b<=n){f:Nat->Nat}(hP:Bo n f)(hF:AU b f):Sf n t.R (n-b) b f↔Gn S f:=by
 rw[<-sf_up h.good (n-b) b ac hF];obtain⟨m,rfl⟩:∃m,n=m+1:=⟨n-1,ac⟩;have aA:=Wf h.good m 0 ac (fun c _ hc=>h.comp c hc);constructor
 .intro h1;exact Wd h.good (Gn.grp hS) (m+1) 0 f ac h.snd.1 hP (fun i hi=>ac) h1
 .intro h1;refine(aA f hP (fun i hi=>ac)).2 (h1.mono fun s hs=>?_);obtain⟨j,hj,e⟩:=χ hs;exact(aA s (hS s hs) (fun i hi=>ac)).1 (h.mem j s ac ar)
theorem IR.orb{n k:Nat}{S:List (Nat->Nat)}{t:Tw}(hn:1<=n)(hS:∀s∈S,Bo n s)(h:IR n S t k)(hk:S.length<=k){b:Nat}(hb:b<n)(x:Nat):(∃r,t.R b x=some r)↔∃f,Gn S f/\AU b f/\f b=x:=by
 constructor
 .rintro⟨r,hr⟩;obtain⟨_,_,h1,h2,h3⟩:=h.good.rep _ _ _ hr;exact⟨r,h.snd.1 _ _ _ (Nat.zero_le _) hr,h2,h3⟩
 .rintro⟨f,hf,hF,rfl⟩;have:=(h.grp hn hS hk ac (hf.isP hS) hF).2 hf;rw[show n-b=n-(b+1)+1 by omega]at this;obtain⟨r,hr,_⟩:=this;exact⟨r,hr⟩
theorem KY(n:Nat)(f:Nat->Int):(il n f).length=n:=Ao n f
theorem Xs{N:Nat}{f g:Nat->Int}(h:∀j,j<N->f j=g j):il N f=il N g:=by
 apply List.ext_getElem?;intro j;by_cases hj:j<N
 .rw[AT hj,AT hj,h j hj]
 .rw[ϛ (by rw[KY];omega),ϛ (by rw[KY];omega)]
theorem WE{n:Nat}{f:Nat->Int}{x:Int}(h:x∈il n f):∃j,j<n/\f j=x:=by
 unfold il at h;obtain⟨j,hj,e⟩:=List.mem_map.1 h;exact⟨j,List.mem_range.1 hj,e⟩
def li(n:Nat)(f:Nat->Nat):List Int:=il n fun i=>(f i:Int)
theorem Fb(n:Nat)(f:Nat->Nat):(li n f).length=n:=KY _ _
theorem DU{n i:Nat}(h:i<n)(f:Nat->Nat):(li n f)[i]?=some (f i:Int):=AT h _
theorem W5{n:Nat}{f g:Nat->Nat}(h:∀i,i<n->f i=g i):li n f=li n g:=Xs fun i hi=>by rw[h i hi]
theorem Fd{w:World}{v:Value}{n:Nat}{f:Nat->Nat}(h:Ak w v (li n f)):∃a cap,v= .slice a n cap/\n<=cap/\cap<=maxLen/\
  (0<n->∃b o,a=some ⟨b,o,none⟩/\∀j,j<n->w.cell? ⟨b,o+j,none⟩=some (.int .i64 (f j:Int))):=by
 obtain⟨a,cap,h1,h2,h3,h4⟩:=h.open;rw[Fb]at h1 h2 h4;refine⟨a,cap,h1,h2,h3,fun hn=>?_⟩;obtain⟨b,o,h5,h6⟩:=h4 hn;exact⟨b,o,h5,fun j hj=>h6 j _ (DU hj f)⟩
theorem AJ.li{w:World}{base:Nat}{e:TypeId}{g n:Nat}{f:Nat->Nat}(h:AJ w base e g n (iv fun i=>(f i:Int))):Ak w (.slice (some (g,0)) n n) (Go.Proofs.YtehieobniamagaaGreat.li n f):=h.isl
theorem zbZ{P:Prop}(h:P:=by
 go_wp2_with fail
 go_roundw
 case rel=>exact⟨k+1,by omega,by go_num,HO,HX⟩
 case measure=>exact Ωm):P:=h
theorem zc6{P:Prop}(h:P:=by
 clear aA;go_wp2_with fail
 go_ret;exact⟨g,rfl,HO.o,hx.o⟩):P:=h
theorem Gj(w:World)(n:Nat)(f h:Nat->Nat)(u v:Value)(hu:Ak w u (li n f))(hv:Ak w v (li n h))(hn:n<=100)(hf:∀i,i<n->f i<n):
  Calls Tryz.prog 108 #[u,v] w fun r w'=>∃g,r= .returned (.slice (some ⟨g,0,none⟩) n n)/\AJ w' w.heap.size 3 g n (iv fun i=>(Ap f h i:Int))/\Ex w w':=by
 obtain⟨ua,uc,rfl,_,u2,u3⟩:=Fd hu;obtain⟨va,vc,rfl,_,v2,v3⟩:=Fd hv;unfold maxLen at u2 v2;have U3:=Aa u3;have V3:=Aa v3;have HF:=Aa hf;clear hu hv u3 v3 hf;go_enter Tryz.func108,Tryz.ntmps108
 go_wp2_with (at_make;refine Ar _ rfl _ _ 22 rfl 3 (.int .i64 0) 8 Tryz.underlying22 Az rfl _ n rfl rfl rfl ac ai ?_)
 intro w3 aA aC;obtain⟨g,aB⟩:=nA w.heap.size;have aH:Hia (AJ w3 g 3 g n (iv fun i=>if i<0 then(Ap f h i:Int) else 0)):=Aa (by rw[<-aB];exact aA.icongr fun i _=>rfl);have aF:=Aa aC;have aG:=Aa aB;rw[aB]at ⊢;clear aA aC aB;go_wp2_with fail
 go_loopw [13] (fun k' wr=>∃(k:Nat),k<=n/\k'= .int .i64 k/\Hia (AJ wr g 3 g n (iv fun i=>if i<k then(Ap f h i:Int) else 0))/\Hia (Ex w wr)) (fun k' _=>n-(intOf k').toNat)
 case atStart=>exact⟨0,ac,rfl,aH,aF⟩
 case round=>
  clear aH aF;obtain⟨k,hk,rfl,aA,hx⟩:=hrel;by_cases hkn:k<n
  .obtain⟨ub,uo,rfl,aE⟩:=U3.o ac;obtain⟨vb,vo,rfl,aD⟩:=V3.o ac;have aI:=HF.o k hkn;have c1:=hx.o.cell (aE k hkn);have c2:=hx.o.cell (aD (f k) aI);have c3:=aA.o.cell hkn;have c4:=aA.o.frz k;have i1:(0:Int)<=(k:Int):=by omega
   have i2:(k:Int)<(n:Int):=ac;have i3:(0:Int)<=(f k:Int):=ac;have i4:(f k:Int)<(n:Int):=ac;have HO:Hia (AJ (wr.setCell (g,k) (.int .i64 (h (f k):Int))) g 3 g n (iv fun i=>if i<k+1 then(Ap f h i:Int) else 0)):=Aa (by
    refine(aA.o.set k _).congr fun i hi=>?_;by_cases e:i=k
    .subst e;rw[Ab];show _=γc .i64 (if i<i+1 then(Ap f h i:Int) else 0);rw[if_pos ac];rfl
    .rw[Ac _ _ e];show γc .i64 (if i<k then(Ap f h i:Int) else 0)=γc .i64 (if i<k+1 then(Ap f h i:Int) else 0)
     by_cases h:i<k
     .exact zbc
     .rw[if_neg h,if_neg ac])
   have HX:=Aa (aA.o.exSet (a:=w) (by have:=aG.o;omega) hx.o k (.int .i64 (h (f k):Int)));clear aE aD aA hx;exact zbZ
  .obtain rfl:k=n:=by omega
   have HO:Hia (AJ wr w.heap.size 3 g k (iv fun i=>(Ap f h i:Int))):=Aa (by
    rw[aG.o];exact aA.o.icongr fun i hi=>if_pos hi)
   exact zc6
theorem JM(w:World)(n:Nat)(f:Nat->Nat)(u:Value)(hu:Ak w u (li n f))(hn:n<=100)(hf:Bo n f):
  Calls Tryz.prog 109 #[u] w fun r w'=>∃g,r= .returned (.slice (some ⟨g,0,none⟩) n n)/\AJ w' w.heap.size 3 g n (iv fun i=>(A8 n f i:Int))/\Ex w w':=by
 obtain⟨ua,uc,rfl,_,u2,u3⟩:=Fd hu;unfold maxLen at u2;have U3:=Aa u3;have HF:=Aa hf;clear hu u3 hf;go_enter Tryz.func109,Tryz.ntmps109
 go_wp2_with (at_make;refine Ar _ rfl _ _ 22 rfl 3 (.int .i64 0) 8 Tryz.underlying22 Az rfl _ n rfl rfl rfl ac ai ?_)
 intro w3 aA aC;obtain⟨g,aB⟩:=nA w.heap.size;have aG:Hia (AJ w3 g 3 g n (iv fun i=>if A8 n f i<0 then(A8 n f i:Int) else 0)):=Aa (by rw[<-aB];exact aA.icongr fun i _=>rfl);have aE:=Aa aC;have aF:=Aa aB;rw[aB]at ⊢;clear aA aC aB;go_wp2_with fail
 go_loopw [11] (fun k' wr=>∃(k:Nat),k<=n/\k'= .int .i64 k/\Hia (AJ wr g 3 g n (iv fun i=>if A8 n f i<k then(A8 n f i:Int) else 0))/\Hia (Ex w wr)) (fun k' _=>n-(intOf k').toNat)
 case atStart=>exact⟨0,ac,rfl,aG,aE⟩
 case round=>
  clear aG aE;obtain⟨k,hk,rfl,aA,hx⟩:=hrel;by_cases hkn:k<n
  .obtain⟨ub,uo,rfl,aD⟩:=U3.o ac;have aH:=HF.o.lt k hkn;have c1:=hx.o.cell (aD k hkn);have c3:=aA.o.cell aH;have c4:=aA.o.frz (f k);have i1:(0:Int)<=(k:Int):=by omega
   have i2:(k:Int)<(n:Int):=ac;have i3:(0:Int)<=(f k:Int):=ac;have i4:(f k:Int)<(n:Int):=ac;have HO:Hia (AJ (wr.setCell (g,f k) (.int .i64 (k:Int))) g 3 g n (iv fun i=>if A8 n f i<k+1 then(A8 n f i:Int) else 0)):=Aa (by
    refine(aA.o.set (f k) _).congr fun i hi=>?_;by_cases e:i=f k
    .subst e;rw[Ab];show _=γc .i64 (if A8 n f (f k)<k+1 then(A8 n f (f k):Int) else 0);rw[HF.o.inv_l,if_pos ac]
    .rw[Ac _ _ e];show γc .i64 (if A8 n f i<k then(A8 n f i:Int) else 0)=γc .i64 (if A8 n f i<k+1 then(A8 n f i:Int) else 0)
     have h1:A8 n f i≠k:=fun h=>e (by rw[<-h,HF.o.inv_r]);by_cases h:A8 n f i<k
     .exact zbc
     .rw[if_neg h,if_neg ac])
   have HX:=Aa (aA.o.exSet (a:=w) (by have:=aF.o;omega) hx.o (f k) (.int .i64 (k:Int)));clear aD aA hx;exact zbZ
  .obtain rfl:k=n:=by omega
   have HO:Hia (AJ wr w.heap.size 3 g k (iv fun i=>(A8 k f i:Int))):=Aa (by
    rw[aF.o];exact aA.o.icongr fun i hi=>if_pos (HF.o.inv.lt i hi))
   exact zc6
theorem OA(w:World)(n:Nat)(hn:n<=100):
  Calls Tryz.prog 102 #[n] w fun r w'=>∃g,r= .returned (.slice (some ⟨g,0,none⟩) n n)/\AJ w' w.heap.size 3 g n (iv fun i=>(Ep i:Int))/\Ex w w':=by
 go_enter Tryz.func102,Tryz.ntmps102
 go_wp2_with (at_make;refine Ar _ rfl _ _ 22 rfl 3 (.int .i64 0) 8 Tryz.underlying22 Az rfl _ n rfl rfl rfl ac ai ?_)
 intro w3 aA aC;obtain⟨g,aB⟩:=nA w.heap.size;have aF:Hia (AJ w3 g 3 g n (iv fun i=>if i<0 then(i:Int) else 0)):=Aa (by rw[<-aB];exact aA.icongr fun i _=>rfl);have aD:=Aa aC;have aE:=Aa aB;rw[aB]at ⊢;clear aA aC aB;go_wp2_with fail
 go_loopw [9] (fun k' wr=>∃(k:Nat),k<=n/\k'= .int .i64 k/\Hia (AJ wr g 3 g n (iv fun i=>if i<k then(i:Int) else 0))/\Hia (Ex w wr)) (fun k' _=>n-(intOf k').toNat)
 case atStart=>exact⟨0,ac,rfl,aF,aD⟩
 case round=>
  clear aF aD;obtain⟨k,hk,rfl,aA,hx⟩:=hrel;by_cases hkn:k<n
  .have c3:=aA.o.cell hkn;have c4:=aA.o.frz k;have i1:(0:Int)<=(k:Int):=by omega
   have i2:(k:Int)<(n:Int):=ac;have HO:Hia (AJ (wr.setCell (g,k) (.int .i64 (k:Int))) g 3 g n (iv fun i=>if i<k+1 then(i:Int) else 0)):=Aa (by
    refine(aA.o.set k _).congr fun i hi=>?_;by_cases e:i=k
    .subst e;rw[Ab];show _=γc .i64 (if i<i+1 then(i:Int) else 0);rw[if_pos ac]
    .rw[Ac _ _ e];show γc .i64 (if i<k then(i:Int) else 0)=γc .i64 (if i<k+1 then(i:Int) else 0)
     by_cases h:i<k
     .exact zbc
     .rw[if_neg h,if_neg ac])
   have HX:=Aa (aA.o.exSet (a:=w) (by have:=aE.o;omega) hx.o k (.int .i64 (k:Int)));clear aA hx;exact zbZ
  .obtain rfl:k=n:=by omega
   have HO:Hia (AJ wr w.heap.size 3 g k (iv fun i=>(Ep i:Int))):=Aa (by
    rw[aE.o];exact aA.o.icongr fun i hi=>if_pos hi)
   exact zc6
end Go.Proofs.YtehieobniamagaaGreat
