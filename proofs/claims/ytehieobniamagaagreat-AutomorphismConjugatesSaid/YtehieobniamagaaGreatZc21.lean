/- Plain: the search finds the first map. -/
import Derived.Test.YtehieobniamagaaGreatZc20
namespace Go.Proofs.YtehieobniamagaaGreat
open Go.RowKit
set_option linter.all false
set_option maxRecDepth 100000
set_option maxHeartbeats 8000000
def Pj(B:Nat):Nat->Nat
 | 0=>1
 | d+1=>1+B*Pj B d
theorem Nq(B:Nat):∀d,Pj B d<=Pj B (d+1)
 | 0=>by simp[Pj]
 | d+1=>by
  show 1+B*Pj B d<=1+B*Pj B (d+1)
  have:=Nat.mul_le_mul_left B (Nq B d);omega
theorem WA(B:Nat){d e:Nat}(h:d<=e):Pj B d<=Pj B e:=by
 obtain⟨k,rfl⟩:=Nat.exists_eq_add_of_le h
 induction k with
 | zero=>exact Nat.le_refl _
 | succ k ih=>exact Nat.le_trans (ih ac) (Nq B _)
theorem TN{l:List Int}{x:Int}{i:Nat}(h:i<l.length):(l ++ [x]).getD i 0=l.getD i 0:=by
 rw[List.getD_eq_getElem?_getD,List.getElem?_append_left h,<-List.getD_eq_getElem?_getD]
theorem Kr{l:List Int}{x:Int}:(l ++ [x]).getD l.length 0=x:=by
 exact zcv
structure Yy(q n:Nat)(tl sc:List Int):Prop where
 len:sc.length=tl.length
 rng:∀i,i<tl.length->0<=tl.getD i 0/\tl.getD i 0<n
 inj:∀i j,i<tl.length->j<i->tl.getD j 0≠tl.getD i 0
 sc:∀i,i<tl.length->∃z:Nat,sc.getD i 0=z/\1<=z/\z<q
theorem Yy.snoc{q n:Nat}{tl sc:List Int}(h:Yy q n tl sc){j a:Nat}(hj:j<n)(hc:tl.contains (j:Int)=false)(h1:1<=a)(h2:a<q):Yy q n (tl ++ [(j:Int)]) (sc ++ [(a:Int)]):=by
 have hl:(tl ++ [(j:Int)]).length=tl.length+1:=ag;refine⟨by simp[h.len],fun i hi=>?_,fun i k hi hk=>?_,fun i hi=>?_⟩
 .rw[hl]at hi;by_cases e:i=tl.length
  .rw[e,Kr];omega
  .rw[TN ac];exact h.rng i ac
 .rw[hl]at hi;rw[TN (l:=tl) (i:=k) ac];by_cases e:i=tl.length
  .rw[e,Kr];intro e2;have:tl.contains (j:Int)=true:=List.contains_iff_mem.2 (by
    rw[<-e2,List.getD_eq_getElem?_getD,List.getElem?_eq_getElem ac];exact List.getElem_mem _)
   rw[hc]at this;cases this
  .rw[TN ac];exact h.inj i k ac hk
 .rw[hl]at hi;by_cases e:i=tl.length
  .rw[e,<-h.len,Kr];exact⟨a,rfl,h1,h2⟩
  .rw[TN (by rw[h.len];omega)];exact h.sc i ac
theorem Yy.rngB{q n:Nat}{tl sc:List Int}(h:Yy q n tl sc):BD tl n=true:=by
 unfold Go.Proofs.YtehieobniamagaaGreat.BD;refine List.all_eq_true.2 fun x hx=>?_;obtain⟨i,hi,rfl⟩:=List.getElem_of_mem hx;have h1:=h.rng i hi;have e:tl.getD i 0=tl[i]:=aw;rw[e]at h1;simp;omega
theorem Yy.injN{q n:Nat}{tl sc:List Int}(h:Yy q n tl sc)(hl:tl.length=n):Gg n (BH tl):=by
 refine⟨fun i hi=>?_,fun i j hi hj e=>Classical.byContradiction fun aA=>?_⟩
 .have:=h.rng i ac;unfold BH;omega
 .have h1:=h.rng i ac;have h2:=h.rng j ac;unfold BH at e;rcases Nat.lt_or_gt_of_ne aA with g|g
  .exact h.inj j i ac g ac
  .exact h.inj i j ac g ac
structure YA(p m:Nat)(ml:List Int)(l1 l2:List (List Int))(n:Nat)(nd:Nd)(tl sc:List Int):Prop where
 v:Yy (p^m) n nd.tl nd.sc
 len:nd.tl.length=n
 t:nd.tl.take tl.length=tl
 s:nd.sc.take tl.length=sc
 c:Ph p m ml l1 l2 nd.tl nd.sc
def NO(n:Nat)(nd:Nd)(pl sl:List Int):Prop:=
 ∃i,i<=n/\(∀k,k<i->nd.tl.getD k 0=pl.getD k 0/\nd.sc.getD k 0=sl.getD k 0)/\(i=n∨nd.tl.getD i 0<pl.getD i 0∨(nd.tl.getD i 0=pl.getD i 0/\nd.sc.getD i 0<sl.getD i 0))
theorem Nb{l t:List Int}{x:Int}(h:l.take (t.length+1)=t ++ [x]):l.take t.length=t/\l.getD t.length 0=x:=by
 constructor
 .have:(l.take (t.length+1)).take t.length=(t ++ [x]).take t.length:=by rw[h]
  rw[List.take_take,show min t.length (t.length+1)=t.length from ac,List.take_left]at this;exact this
 .have h2:(l.take (t.length+1)).getD t.length 0=l.getD t.length 0:=Cp ac;rw[<-h2,h,Kr]
section
variable {p m:Nat} {ml:List Int} {n:Nat} {l1 l2:List (List Int)} {pl sl tl sc:List Int} {nd:Nd}
theorem YA.back{j a:Int}(h:YA p m ml l1 l2 n nd (tl ++ [j]) (sc ++ [a]))(hl:sc.length=tl.length):YA p m ml l1 l2 n nd tl sc/\nd.tl.getD tl.length 0=j/\nd.sc.getD tl.length 0=a:=by
 have h1:=h.t;have h2:=h.s;rw[List.length_append]at h1 h2;obtain⟨a1,a2⟩:=Nb (t:=tl) h1;obtain⟨b1,b2⟩:=Nb (t:=sc) (by rw[hl];exact h2);rw[hl]at b1 b2;exact⟨⟨h.v,h.len,a1,b1,h.c⟩,a2,b2⟩
theorem YA.lex{j a:Int}(h:YA p m ml l1 l2 n nd (tl ++ [j]) (sc ++ [a]))(hl:sc.length=tl.length)(hK:tl.length<n)(hp:pl.take tl.length=tl)(hs:sl.take tl.length=sc)(aA:j<pl.getD tl.length 0∨(j=pl.getD tl.length 0/\a<sl.getD tl.length 0)):NO n nd pl sl:=by
 obtain⟨h0,h1,h2⟩:=h.back hl;refine⟨tl.length,ac,fun k hk=>?_,.inr (by rw[h1,h2];exact aA)⟩;have e1:nd.tl.getD k 0=tl.getD k 0:=by rw[<-Cp (l:=nd.tl) hk,h0.t]
 have e2:nd.sc.getD k 0=sc.getD k 0:=by rw[<-Cp (l:=nd.sc) hk,h0.s]
 have e3:pl.getD k 0=tl.getD k 0:=by rw[<-Cp (l:=pl) hk,hp]
 have e4:sl.getD k 0=sc.getD k 0:=by rw[<-Cp (l:=sl) hk,hs]
 rw[e1,e2,e3,e4];exact⟨rfl,rfl⟩
structure Yg(p m:Nat)(ml:List Int)(l1 l2:List (List Int))(n b s0:Nat)(tl sc:List Int)(r:(Nat × List Nd) × Int):Prop where
 cnt:r.1.1<=s0+b
 res:r.2=0∨(r.2=18/\YA p m ml l1 l2 n (Cs r.1.2) tl sc)
 fnd:∀pl sl,A8 p m ml n l1 l2 pl sl->pl.take tl.length=tl->sl.take tl.length=sc->r.2=18/\NO n (Cs r.1.2) pl sl
variable {step:Nat × List Nd->List Int->List Int->(Nat × List Nd) × Int} {b:Nat}
theorem PI(hl:sc.length=tl.length)(hK:tl.length<n){j:Nat}(aA:∀(a:Nat) s,1<=a->a<=p^m-1->s.1+b<=65536->Yg p m ml l1 l2 n b s.1 (tl ++ [(j:Int)]) (sc ++ [(a:Int)]) (step s (tl ++ [(j:Int)]) (sc ++ [(a:Int)]))):
  ∀c,c<=p^m-1->∀s,s.1+c*b<=65536->(Gr step tl sc j c s).1.1<=s.1+c*b/\((Gr step tl sc j c s).2=0∨((Gr step tl sc j c s).2=18/\∃a:Nat,1<=a/\a<=c/\YA p m ml l1 l2 n (Cs (Gr step tl sc j c s).1.2) (tl ++ [(j:Int)]) (sc ++ [(a:Int)])))/\
   ∀pl sl,A8 p m ml n l1 l2 pl sl->pl.take tl.length=tl->sl.take tl.length=sc->pl.getD tl.length 0=j->sl.getD tl.length 0<=c->(Gr step tl sc j c s).2=18/\NO n (Cs (Gr step tl sc j c s).1.2) pl sl
 | 0,_,s,_=>by
  refine⟨by show s.1<=_;omega,.inl rfl,fun pl sl hT h1 h2 h3 h4=>?_⟩;obtain⟨z,hz,h5,_⟩:=hT.sc tl.length hK;rw[hz]at h4;omega
 | c+1,hc,s,hs=>by
  have hm:(c+1)*b=c*b+b:=by rw[Nat.add_mul,Nat.one_mul]
  obtain⟨i1,i2,i3⟩:=PI hl hK aA c ac s ac;by_cases h0:(Gr step tl sc j c s).2=0
  .have e:Gr step tl sc j (c+1) s=step (Gr step tl sc j c s).1 (tl ++ [(j:Int)]) (sc ++ [((c+1:Nat):Int)]):=by
    show(if _ then _ else _)=_
    rw[if_neg (fun h=>h h0)]
   rw[e];have ho:=aA (c+1) (Gr step tl sc j c s).1 ac hc ac;refine⟨by have:=ho.cnt;omega,?_,fun pl sl hT h1 h2 h3 h4=>?_⟩
   .rcases ho.res with h|⟨h,hf⟩
    .exact .inl h
    .exact .inr ⟨h,c+1,ac,ac,hf⟩
   .by_cases h5:sl.getD tl.length 0<=c
    .have:=(i3 pl sl hT h1 h2 h3 h5).1;rw[h0]at this;cases this
    .obtain⟨a,a1,a2,b1,b2,_,_,c1,c2⟩:=hT.step hK;have ea:a=c+1:=by omega
     have ej:((BH pl tl.length:Nat):Int)=j:=by rw[<-b1,h3]
     refine ho.fnd pl sl hT ?_ ?_
     .rw[List.length_append];show pl.take (tl.length+1)=_
      rw[c1,h1,ej]
     .rw[List.length_append];show sl.take (tl.length+1)=_
      rw[c2,h2,ea]
  .have e:Gr step tl sc j (c+1) s=Gr step tl sc j c s:=by
    show(if _ then _ else _)=_
    rw[if_pos h0]
   rw[e];rcases i2 with h|⟨h,a,a1,a2,hf⟩
   .exact absurd h h0
   .refine⟨ac,.inr ⟨h,a,a1,ac,hf⟩,fun pl sl hT h1 h2 h3 h4=>?_⟩;by_cases h5:sl.getD tl.length 0<=c
    .exact i3 pl sl hT h1 h2 h3 h5
    .exact⟨h,hf.lex hl hK h1 h2 (.inr ⟨h3.symm,ac⟩)⟩
theorem PF(hl:sc.length=tl.length)(hK:tl.length<n)(aA:∀(j a:Nat) s,j<n->tl.contains (j:Int)=false->1<=a->a<=p^m-1->s.1+b<=65536->Yg p m ml l1 l2 n b s.1 (tl ++ [(j:Int)]) (sc ++ [(a:Int)]) (step s (tl ++ [(j:Int)]) (sc ++ [(a:Int)]))):
  ∀J,J<=n->∀s,s.1+J*((p^m-1)*b)<=65536->(Es step (p^m) tl sc J s).1.1<=s.1+J*((p^m-1)*b)/\((Es step (p^m) tl sc J s).2=0∨((Es step (p^m) tl sc J s).2=18/\∃j a:Nat,j<J/\YA p m ml l1 l2 n (Cs (Es step (p^m) tl sc J s).1.2) (tl ++ [(j:Int)]) (sc ++ [(a:Int)])))/\
   ∀pl sl,A8 p m ml n l1 l2 pl sl->pl.take tl.length=tl->sl.take tl.length=sc->pl.getD tl.length 0<J->(Es step (p^m) tl sc J s).2=18/\NO n (Cs (Es step (p^m) tl sc J s).1.2) pl sl
 | 0,_,s,_=>by
  refine⟨by show s.1<=_;omega,.inl rfl,fun pl sl hT h1 h2 h3=>?_⟩;have:=hT.nn tl.length hK;omega
 | J+1,hJ,s,hs=>by
  have hm:(J+1)*((p^m-1)*b)=J*((p^m-1)*b)+(p^m-1)*b:=by rw[Nat.add_mul,Nat.one_mul]
  obtain⟨i1,i2,i3⟩:=PF hl hK aA J ac s ac;by_cases h0:(Es step (p^m) tl sc J s).2=0
  .cases hc:tl.contains (J:Int) with
   | true=>
    have e:Es step (p^m) tl sc (J+1) s=Es step (p^m) tl sc J s:=by
     show(if _ then _ else if _ then _ else _)=_
     rw[if_neg (fun h=>h h0),if_pos hc]
    rw[e];refine⟨ac,.inl h0,fun pl sl hT h1 h2 h3=>?_⟩;by_cases h5:pl.getD tl.length 0<J
    .exact i3 pl sl hT h1 h2 h5
    .obtain⟨a,a1,a2,b1,b2,_,d1,c1,c2⟩:=hT.step hK;have ej:((BH pl tl.length:Nat):Int)=J:=by rw[<-b1];omega
     rw[h1,ej,hc]at d1;cases d1
   | false=>
    have e:Es step (p^m) tl sc (J+1) s=Gr step tl sc J (p^m-1) (Es step (p^m) tl sc J s).1:=by
     show(if _ then _ else if _ then _ else _)=_
     rw[if_neg (fun h=>h h0),if_neg (by rw[hc];decide)]
    rw[e];obtain⟨k1,k2,k3⟩:=PI (p:=p) (m:=m) (ml:=ml) (l1:=l1) (l2:=l2) (step:=step) (b:=b) hl hK (j:=J) (fun a s h1 h2 h3=>aA J a s ac hc h1 h2 h3) (p^m-1) (Nat.le_refl _) (Es step (p^m) tl sc J s).1 ac;refine⟨ac,?_,fun pl sl hT h1 h2 h3=>?_⟩
    .rcases k2 with h|⟨h,a,a1,a2,hf⟩
     .exact .inl h
     .exact .inr ⟨h,J,a,ac,hf⟩
    .by_cases h5:pl.getD tl.length 0<J
     .have:=(i3 pl sl hT h1 h2 h5).1;rw[h0]at this;cases this
     .obtain⟨a,a1,a2,b1,b2,_,_,c1,c2⟩:=hT.step hK;exact k3 pl sl hT h1 h2 ac ac
  .have e:Es step (p^m) tl sc (J+1) s=Es step (p^m) tl sc J s:=by
    show(if _ then _ else if _ then _ else _)=_
    rw[if_pos h0]
   rw[e];rcases i2 with h|⟨h,j,a,hj,hf⟩
   .exact absurd h h0
   .refine⟨ac,.inr ⟨h,j,a,ac,hf⟩,fun pl sl hT h1 h2 h3=>?_⟩;by_cases h5:pl.getD tl.length 0<J
    .exact i3 pl sl hT h1 h2 h5
    .exact⟨h,hf.lex hl hK h1 h2 (.inl ac)⟩
theorem ST(hW:Vy p m ml n l1 l2):∀d tl sc s,Yy (p^m) n tl sc->tl.length+d=n->s.1+Pj (n*(p^m-1)) d<=65536->Yg p m ml l1 l2 n (Pj (n*(p^m-1)) d) s.1 tl sc (MC p m ml l1 l2 n d s tl sc)
 | d,tl,sc,s,hv,hd,hs=>by
  have hb1:1<=Pj (n*(p^m-1)) d:=by cases d <;> simp[Pj]
  have aA:=hW.wit (sc:=sc) hv.rngB;unfold MC;rw[if_neg ac];simp only;by_cases h1:0<=(Fi p m ml l1 l2 tl sc).1
  .rw[if_pos h1];refine⟨by show s.1+1<=_;omega,.inl rfl,fun pl sl hT e1 e2=>?_⟩;have hc:=hT.compat hW.hp (K:=tl.length) ac;rw[e1,e2]at hc;have:=aA.2 hc;omega
  .have hc:=aA.1 ac;rw[if_neg h1];by_cases h2:tl.length=n
   .rw[if_pos h2];refine⟨by show s.1+1<=_;omega,.inr ⟨rfl,?_⟩,fun pl sl hT e1 e2=>⟨rfl,?_⟩⟩
    .simp only[FD];exact⟨hv,h2,List.take_length,by rw[<-hv.len];exact List.take_length,hc⟩
    .simp only[FD];refine⟨n,Nat.le_refl _,fun k hk=>⟨?_,?_⟩,.inl rfl⟩
     .show tl.getD k 0=_
      rw[<-e1,Cp ac]
     .show sc.getD k 0=_
      rw[<-e2,Cp ac]
   .rw[if_neg h2]
    cases d with
    | zero=>omega
    | succ d=>
     simp only;have hB:Pj (n*(p^m-1)) (d+1)=1+n*((p^m-1)*Pj (n*(p^m-1)) d):=by
      show 1+n*(p^m-1)*Pj (n*(p^m-1)) d=_
      rw[Nat.mul_assoc]
     have hK:tl.length<n:=ac;obtain⟨k1,k2,k3⟩:=PF (p:=p) (m:=m) (ml:=ml) (l1:=l1) (l2:=l2) (n:=n) (step:=MC p m ml l1 l2 n d) (b:=Pj (n*(p^m-1)) d) hv.len hK (fun j a s hj aB h1 h2 h3=>ST hW d _ _ s (hv.snoc hj aB h1 ac) (by rw[List.length_append];show tl.length+1+d=n;omega) h3) n (Nat.le_refl _) (s.1+1,s.2 ++ [⟨tl,sc,(Fi p m ml l1 l2 tl sc).1,J3 l1.length l2.length (Fi p m ml l1 l2 tl sc)⟩]) (by show s.1+1+_<=_;omega);refine⟨by rw[hB];have k1':_<=s.1+1+_:=k1;omega,?_,fun pl sl hT e1 e2=>?_⟩
     .rcases k2 with h|⟨h,j,a,hj,hf⟩
      .exact .inl h
      .exact .inr ⟨h,(hf.back hv.len).1⟩
     .have:=hT.inj.lt tl.length hK;have hnn:=hT.nn tl.length hK;unfold BH at this;exact k3 pl sl hT e1 e2 ac
end
def KP(N q:Nat):Nat->Nat × Nat
 | 0=>(1,1)
 | i+1=>((KP N q i).1*((N-i)*max 1 (q-1)),(KP N q i).2+(KP N q i).1*((N-i)*max 1 (q-1)))
def Vt(n:Int)(q:Nat):Prop:=(n<1∨7<n->n<1∨64<n)/\(1<=n->n<=7->∀i,i<=n.toNat->(KP n.toNat q i).2<=3000)
theorem Uw:∀N,N<8->∀q,q<17->(KP N q N).2<=3000->Pj (N*(q-1)) N<=65536:=ak
theorem Tm{q N:Nat}{rows:List (List Int)}(hN:N<=256)(hr:rows.length<=256)(h:∀r∈rows,r.length=N/\Ce q r=0):BV q N rows=0:=by
 unfold BV;rw[if_neg ac,if_pos (List.all_eq_true.2 fun r hr=>by simp[(h r hr).1]),if_pos (List.all_eq_true.2 fun r hr=>by simp[(h r hr).2])]
theorem Xd{p m:Nat}{ml pl ul:List Int}{fr N:Nat}{x:List Int}(h:Bo p m ml pl ul fr N):Ce (p^m) (il N (LQ p m ml pl ul fr x N))=0:=TV fun y hy=>by
 obtain⟨i,hi,rfl⟩:=List.getElem_of_mem hy;rw[AJ]at hi;obtain⟨z,h1,h2⟩:=ZT h (x:=x) i hi;rw[List.getD_eq_getElem?_getD,List.getElem?_eq_getElem (by rw[AJ];exact hi)]at h1;have aA:(il N (LQ p m ml pl ul fr x N))[i]'(by rw[AJ];exact hi)=z:=h1;rw[aA];omega
theorem imL_ok{p m:Nat}{ml pl ul:List Int}{fr N:Nat}{l1:List (List Int)}(h:Bo p m ml pl ul fr N):∀r∈E3 p m ml pl ul fr N l1 l1.length,r.length=N/\Ce (p^m) r=0:=fun r hr=>by
 unfold E3 at hr;obtain⟨x,_,rfl⟩:=List.mem_map.1 hr;exact⟨AJ _ _,Xd h⟩
theorem Wz{p m:Nat}{ml pl ul:List Int}{fr N:Nat}{l1:List (List Int)}(hc:B6 p m ml=0)(hl:l1.length<=256)(h:Bo p m ml pl ul fr N):Lp p m ml N (E3 p m ml pl ul fr N l1 l1.length)=0:=by
 have h1:Dx p m ml N (E3 p m ml pl ul fr N l1 l1.length)=0:=by
  unfold Dx;rw[if_neg (fun h=>h hc)];have e:(p:Int).toNat^(m:Int).toNat=p^m:=ag;rw[e];exact Tm (by have:=h.n2;omega) (by rw[Hd (Nat.le_refl _)];exact hl) (imL_ok h)
 unfold Lp;rw[if_neg (fun h=>h h1)];unfold Ew;rw[if_neg (by have:=h.n1;have:=h.n2;omega)]
theorem XT{p m N:Nat}{ml:List Int}{R:Nat}{a a':Nat->Nat->Int}{piv:List Nat}(hF:FP p m ml)(hn1:1<=N)(hn2:N<=64)(hR:R<=256)(h:Hk p m ml N R a a' piv):BK p m ml N (Au N piv.length a') 0:=by
 have hc:B6 p m ml=0:=(BU _ _ _).2 hF;have aA:BV (p^m) N (Au N piv.length a')=0:=Tm ac (by rw[AL];have:=(GR h).1;omega) (GR h).2;have aD:Dx p m ml N (Au N piv.length a')=0:=by
  unfold Dx;rw[if_neg (fun h=>h hc)];have e:(p:Int).toNat^(m:Int).toNat=p^m:=ag;rw[e];exact aA
 have hl:Ew N=0:=by unfold Ew;rw[if_neg ac]
 have hlen:=(GR h).1;obtain⟨c,aE,hP,hend,hS⟩:=h;have aF:PV p m piv.length N (An (Au N piv.length a')) piv c:=by
  have e:∀i j,i<piv.length->j<N->An (Au N piv.length a') i j=a' i j:=fun i j hi hj=>JR hi hj;have aB:∀j q:Nat,piv[j]?=some q->j<piv.length:=fun j q hq=>(List.getElem?_eq_some_iff.1 hq).1;refine⟨Nat.le_refl _,fun i hi j hj=>?_,hP.lt,fun j q hq=>?_,fun j q i hq hi aC=>?_,fun i j h1 h2 _=>ac,fun j q k hq hk=>?_,hP.asc⟩
  .rw[e i j hi hj];exact hP.rng i ac j hj
  .rw[e j q (aB j q hq) (by have:=hP.lt j q hq;omega)];exact hP.one j q hq
  .rw[e i q hi (by have:=hP.lt j q hq;omega)];exact hP.zer j q i hq ac aC
  .rw[e j k (aB j q hq) (by have:=hP.lt j q hq;omega)];exact hP.lead j q k hq hk
 refine .inr (.inr ⟨hc,hl,.inr ⟨aD,p,m,N,piv,An (Au N piv.length a'),rfl,rfl,rfl,hF,aA,?_,?_⟩⟩)
 .rw[AL];exact IR aF aE rfl
 .have h5:Au N piv.length (An (Au N piv.length a'))=Au N piv.length a':=by
   have:=JQ (N:=N) (rows:=Au N piv.length a') fun r hr=>by
    unfold Au at hr;obtain⟨i,_,rfl⟩:=List.mem_map.1 hr;exact AJ _ _
   rw[AL]at this;exact this
  rw[if_pos h5]
section
variable {p m:Nat} {ml:List Int} {n:Nat} {l1 l2:List (List Int)} {pl sl:List Int}
theorem ee{P:Prop}(h:P:=by rw[h.len];exact hi):P:=h
theorem YA.takes{tl sc:List Int}{nd:Nd}(hp:2<=p)(h:YA p m ml l1 l2 n nd tl sc):A8 p m ml n l1 l2 nd.tl nd.sc:=
 A8.of hp h.len (by rw[h.v.len];exact h.len) (fun i hi=>(h.v.rng i ee).1) (h.v.injN h.len) (fun i hi=>h.v.sc i ee) h.c
end
theorem Yc{p m N fr:Nat}{ml pl ul:List Int}{rows:List (List Int)}{b0:Nat}{r:Ending}{w':World}(h:AppR p m ml N rows pl ul fr b0 r w')(ho:BK p m ml N rows 0)(aA:CL p m ml N pl ul fr=0):
  ∃(piv:List Nat) (a':Nat->Nat->Int) (rv v':Value),r= .returned (.tuple #[.agg #[p,m,v',N,rv],(0:Int)])/\Hk p m ml N (E3 p m ml pl ul fr N rows rows.length).length (An (E3 p m ml pl ul fr N rows rows.length)) a' piv/\Aj w' v' ml/\B9 w' rv (Au N piv.length a'):=by
 obtain⟨e1,aB,h⟩:=h;obtain rfl:=Ch aB ho;have aC:imA p m ml pl ul fr N rows=E3 p m ml pl ul fr N rows rows.length:=by unfold imA;simp
 obtain⟨p2,m2,N2,f2,j1,j2,j3,j4,hf,aD,hM⟩:=IG aA;obtain rfl:p=p2:=ac;obtain rfl:m=m2:=ac;obtain rfl:N=N2:=ac;obtain rfl:fr=f2:=ac;rcases h with⟨h,_⟩|⟨_,h,_⟩|⟨_,_,h⟩
 .exact absurd rfl h
 .exact absurd aA h
 .rw[aC]at h;rcases h with⟨h,_⟩|⟨_,pn,mn,N',piv,a',rv,v',e1,e2,e3,_,_,hr,hel,hv,hrv,_⟩
  .exact absurd (Wz aD (Ds ho).1 hM) h
  .obtain rfl:p=pn:=by omega
   obtain rfl:m=mn:=ac;obtain rfl:N=N':=ac;exact⟨piv,a',rv,v',hr,hel,hv,hrv⟩
theorem P4{p m:Nat}{ml:List Int}(h:Hh p m ml):CG p m=((p^m:Nat):Int):=by
 unfold CG;have h1:((p:Int)^(m:Int).toNat)=((p^m:Nat):Int):=ag;have h2:=h.p2;have h3:=h.m1;have h4:=h.m8;have h5:=h.q;rw[h1,if_pos ac]
def I8(c:AZ)(e0:Int):Int:=if e0≠0 then e0 else if 64<c.n.toNat*(c.p.toNat^c.m.toNat-1) then 8 else 0
def OpO(c:AZ)(r:Ending)(w':World):Prop:=∃e0:Int,BK c.p c.m c.ml c.n c.rows e0/\
 ((I8 c e0≠0/\∃(aA:Option Addr) (d:Int),r= .returned (.tuple #[.pointer aA,d,.int .i64 (I8 c e0)]))∨
 (I8 c e0=0/\∃(pn mn N b x0:Nat),c.p=pn/\c.m=mn/\c.n=N/\1<=N/\N<=64/\N*(pn^mn-1)<=64/\r= .returned (.tuple #[.pointer (some (b,0)),((N*(pn^mn-1):Nat):Int),(0:Int)])/\Bj w' b pn mn c.ml x0/\1<=x0/\x0<pn^mn))
theorem zat{P:Prop}(h:P:=by
 refine Bu.on rfl fun L a w aB aA hd hx K hK=>?_;have bC:=aB 5 23 _ (hd ⟨5,.data⟩ (by simp) rfl) rfl rfl;exact zdb):P:=h
theorem Ll(w:World)(c:AZ)(m1 v1:Value)(hc:c.at w m1 v1):
  Calls Tryz.prog 69 #[c.arg m1 v1] w fun r w'=>OpO c r w'/\Ex w w':=by
 obtain⟨c0,c1,c2,c3,c4⟩:=Du w c m1 v1;have aL:=AI w (c.obj m1 v1);have aH:=Aa (hc.ex aL);obtain⟨x1,y1,rfl,-,z1,-⟩:=hc.g.open;obtain⟨x3,y3,rfl,-,z3,-⟩:=hc.m.open;unfold maxLen at z1 z3;obtain⟨B,hB⟩:=nA w.heap.size;rw[hB]at c0 c1 c2 c3 c4;have aI:=Aa aL;obtain⟨cp,cm,aD,cn,aF⟩:=c;obtain⟨C,hC⟩:∃C:AZ,C=⟨cp,cm,aD,cn,aF⟩:=⟨_,rfl⟩;have aE:=Aa hC;have aK:=Aa (fun w1 (h:Ex (w.alloc (AZ.obj ⟨cp,cm,aD,cn,aF⟩ (.slice x3 aD.length y3) (.slice x1 aF.length y1))) w1)=>D9 w1 cp cm aD (.slice x3 aD.length y3) (aH.o.m.ex h) cn aF (.slice x1 aF.length y1) (aH.o.g.ex h));unfold AZ.arg;unfold AZ.obj at aI aK aH c0 c1 c2 c3 c4;dsimp only at aI aK aH c0 c1 c2 c3 c4 ⊢;rw[<-hC];clear hc aL hC;go_enter Tryz.func69,Tryz.ntmps69
 go_upto_region 1 with fail
 try simp only[hB]
 clear hB;generalize w.alloc (.cells #[cp,cm,.slice x3 aD.length y3,cn,.slice x1 aF.length y1] 39)=w1 at *;go_wp2_with fail
 refine(aK.o w1 (Ex.refl _)).mono ?_;rintro e w2⟨⟨E,rfl,aU⟩,aC⟩;have aQ:=Aa aU;have aP:=Aa aC;replace c0:=aC.cell c0;replace c1:=aC.cell c1;replace c2:=aC.cell c2;replace c3:=aC.cell c3;replace c4:=aC.cell c4;clear aC aU aK;by_cases h0:E=0
 rotate_left
 .have hb:(E !=0)=true:=by simpa using h0
  have HR:=Aa (show I8 C E=E/\I8 C E≠0 from by unfold I8;rw[if_pos h0];exact⟨rfl,h0⟩);clear h0;go_wp2_with fail
  exact bodyPost_ret (v:= .tuple #[.pointer none,(0:Int),E]) (by simp[results,Tryz.results69,go_sem]) rfl ⟨⟨E,by rw[aE.o];exact aQ.o,.inl ⟨HR.o.2,_,_,by rw[HR.o.1]⟩⟩,aI.o.trans aP.o⟩
 .subst h0;obtain⟨aT,k1,k2⟩:=Eh aQ.o;have aY:=Aa (Gf cp cm aD _ w2 (aH.o.m.ex aP.o));have bI:=Aa aT;obtain⟨N,rfl⟩:∃N:Nat,cn=N:=⟨cn.toNat,ac⟩;have HN:=Aa (show 1<=N/\N<=64 from ac);clear aT k1 k2;go_wp2_with fail
  refine aY.o.mono ?_;rintro e w3⟨bB,aM⟩;rcases bB with⟨pn,mn,x0,gb,rfl,rfl,rfl,hg,h1,h2⟩|⟨hbad,-⟩
  rotate_left
  .exact absurd bI.o hbad
  obtain⟨bE,bD,HG,bH,bG⟩:=Of (aP.o.trans aM) (aM.cell c3) hg h1 h2;have bA:2<=pn^mn:=Nat.le_trans hg.sh.p2 (Nat.le_self_pow (by have:=hg.sh.m1;omega) pn);have aS:=hg.sh.q;have aX:=Aa (fun (w5:World) (h5:Ex w3 w5)=>Cu w5 (HG.o.ex h5));have aJ:=Aa (fun (w5:World)=>Ig w5 N (pn^mn) HN.o.2 ac aS);have aG:=Aa (show I8 C 0=if 64<N*(pn^mn-1) then 8 else 0 from by rw[aE.o];unfold I8;rw[if_neg ag];rfl);obtain⟨q,hq⟩:=nA (pn^mn);have HQ:=Aa hq;rw[hq]at aX aJ aG;obtain⟨D,hD⟩:=nA (N*(q-1));rw[hD]at aJ aG;have aZ:=Aa hD;obtain⟨T0,aO⟩:∃z,((if 64<D then 0 else D:Nat):Int)=z:=⟨_,rfl⟩;obtain⟨T1,aN⟩:∃z,(if 64<D then(8:Int) else 0)=z:=⟨_,rfl⟩;rw[aO,aN]at aJ;have bF:=Aa aO;have aW:=Aa aN;clear aO aN hD hq aM hg h1 h2 bA aS aY c0 c1 c2 c3 c4;go_wp2_with fail
  go_upto_region 7 with fail
  refine BR (fun k=>([.pointer (some ⟨B,3,none⟩),.int .i64 (N:Int),.pointer (some ⟨gb,0,none⟩),.int .i64 (q:Int),.tuple #[T0,T1],.tuple #[T0,T1],.int .i64 T0,.int .i64 T1,.int .i64 T0,.int .i64 T1]:List Value).getD k undef) ah ah ah ?_ ?_
  .simp only[AG];refine⟨?_,?_,?_,?_,?_,?_,?_,?_,?_,?_,trivial⟩
   .refine Bu.on rfl fun L a w aB aA hd hx K hK=>?_;have e1:a.tmps[1]?=some (.pointer (some (B,0))):=aA 1 ah;exact zdb
   .refine Bu.on rfl fun L a w aB aA hd hx K hK=>?_;have e24:=aB 0 24 _ (hd ⟨0,.data⟩ ag rfl) rfl rfl;have c1:=hx.cell bD.o;exact zdb
   .refine Bu.on rfl fun L a w aB aA hd hx K hK=>?_;have e6:a.tmps[6]?=some (.pointer (some (gb,0))):=aA 6 ah;exact zdb
   .refine Bu.on rfl fun L a w aB aA hd hx K hK=>?_;have e26:=aB 2 26 _ (hd ⟨2,.data⟩ ag rfl) rfl rfl;clear aB aA hd;go_simp;refine(aX.o _ hx).mono ?_;exact zc8
   .refine Bu.on rfl fun L a w aB aA hd hx K hK=>?_;have e25:=aB 1 25 _ (hd ⟨1,.data⟩ ag rfl) rfl rfl;have e27:=aB 3 27 _ (hd ⟨3,.data⟩ ag rfl) rfl rfl;clear aB aA hd;go_simp;refine(aJ.o _).mono ?_;exact zc8
   .refine Bu.on rfl fun L a w aB aA hd hx K hK=>?_;have e28:=aB 4 28 _ (hd ⟨4,.data⟩ ag rfl) rfl rfl;exact zdb
   .exact zat
   .exact zat
   .refine Bu.on rfl fun L a w aB aA hd hx K hK=>?_;have e29:=aB 6 29 _ (hd ⟨6,.data⟩ ag rfl) rfl rfl;exact zdb
   .refine Bu.on rfl fun L a w aB aA hd hx K hK=>?_;have e30:=aB 7 30 _ (hd ⟨7,.data⟩ ag rfl) rfl rfl;exact zdb
  .intro w5 aR;simp only[Cm,Act.put,List.setIfInBounds_toArray,List.set_cons_zero,List.set_cons_succ];have aV:=Aa aR;clear aR;go_wp2_with fail
   refine bodyPost_ret (v:= .tuple #[.pointer (some ⟨gb,0,none⟩),T0,T1]) (by simp[results,Tryz.results69,go_sem]) rfl ⟨⟨0,by rw[aE.o];exact aQ.o,?_⟩,aI.o.trans (bE.o.trans aV.o)⟩;by_cases hd:64<D
   .refine .inl ⟨by rw[aG.o,if_pos hd];decide,_,_,by rw[aG.o,aW.o]⟩
   .refine .inr ⟨by rw[aG.o,if_neg hd],pn,mn,N,gb,x0,by rw[aE.o],by rw[aE.o],by rw[aE.o],HN.o.1,HN.o.2,by rw[HQ.o,aZ.o];omega,?_,by rw[aE.o];exact HG.o.ex aV.o,bH.o,bG.o⟩;rw[HQ.o,aZ.o,<-bF.o,<-aW.o,if_neg hd,if_neg hd]
structure Mx(mb mb':List Nat)(w w':World):Prop where
 os:w'.os=w.os
 tape:w'.tape=w.tape
 output:w'.output=w.output
 size:w.heap.size<=w'.heap.size
 block:∀i,i<w.heap.size->i ∉ mb->w'.heap[i]?=w.heap[i]?
 mb:∀B∈mb',B∈mb∨w.heap.size<=B
theorem Mx.ofEx{w w':World}(h:Ex w w')(mb:List Nat):Mx mb mb w w':=⟨h.os,h.tape,h.output,h.size,fun i hi _=>h.block i hi,fun B h=> .inl h⟩
theorem Mx.trans{a b c:List Nat}{u v w:World}(h:Mx a b u v)(k:Mx b c v w):Mx a c u w:=
 ⟨k.os.trans h.os,k.tape.trans h.tape,k.output.trans h.output,Nat.le_trans h.size k.size,fun i hi hn=>by
  rw[k.block i (Nat.lt_of_lt_of_le hi h.size) (fun hb=>by
   rcases h.mb i hb with h1|h1
   .exact hn h1
   .omega),h.block i hi hn],fun B hB=>by
  rcases k.mb B hB with h1|h1
  .exact h.mb B h1
  .exact .inr (Nat.le_trans h.size h1)⟩
theorem Mx.ex{mb aA:List Nat}{w0 w w':World}(h:Mx mb aA w w')(hx:Ex w0 w)(hb:∀B∈mb,w0.heap.size<=B):Ex w0 w':=
 ⟨h.os.trans hx.os,h.tape.trans hx.tape,h.output.trans hx.output,Nat.le_trans hx.size h.size,fun i hi=>by
  rw[h.block i (Nat.lt_of_lt_of_le hi hx.size) (fun h1=>by have:=hb i h1;omega)];exact hx.block i hi⟩
theorem Mx.cell{mb aA:List Nat}{w w':World}(h:Mx mb aA w w'){a:Addr}{u:Value}(hc:w.cell? a=some u)(hn:a.block ∉ mb):w'.cell? a=some u:=by
 rw[<-hc];exact World.cell?_of_block (h.block a.block (World.block_lt_of_cell? _ _ hc) hn)
structure Cz(w:World)(mb:List Nat)(n:Nat)(u:Value)(f:Nat->Nat):Prop where
 sl:Aj w u (li n f)
 at_:∃b o cap,u= .slice (some ⟨b,o,none⟩) n cap/\cap<=maxLen/\b ∉ mb/\b<w.heap.size/\∀j,j<n->w.cell? ⟨b,o+j,none⟩=some (.int .i64 (f j:Int))
theorem Cz.of{w:World}{mb:List Nat}{n:Nat}{u:Value}{f:Nat->Nat}(h:Aj w u (li n f))(hn:1<=n)(hb:∀B,u.ownBlock=some B->B ∉ mb):Cz w mb n u f:=by
 refine⟨h,?_⟩;obtain⟨a,cap,rfl,h1,h2,h3⟩:=DV h;obtain⟨b,o,rfl,h4⟩:=h3 hn;exact⟨b,o,cap,rfl,h2,hb b rfl,World.block_lt_of_cell? _ _ (h4 0 hn),h4⟩
theorem Cz.mx{mb aA:List Nat}{w w':World}{n:Nat}{u:Value}{f:Nat->Nat}(h:Cz w mb n u f)(hx:Mx mb aA w w'):Cz w' aA n u f:=by
 obtain⟨b,o,cap,rfl,h1,h2,h3,h4⟩:=h.at_;have hs:Aj w' (.slice (some ⟨b,o,none⟩) n cap) (li n f):=by
  obtain⟨k1,a,c,k2,k3,k4,k5⟩:=h.sl;refine⟨k1,a,c,k2,k3,k4,fun hn=>?_⟩;obtain⟨b',o',k6,k7⟩:=k5 hn;injection k2 with k2 _ _;rw[k6]at k2;injection k2 with k2;injection k2 with k2 k8;subst k2 k8;exact⟨b,o,k6,fun j u hu=>hx.cell (k7 j u hu) h2⟩
 refine⟨hs,b,o,cap,rfl,h1,fun hb=>?_,Nat.lt_of_lt_of_le h3 hx.size,fun j hj=>hx.cell (h4 j hj) h2⟩;rcases hx.mb b hb with h5|h5
 .exact h2 h5
 .omega
theorem Cz.ex{mb:List Nat}{w w':World}{n:Nat}{u:Value}{f:Nat->Nat}(h:Cz w mb n u f)(hx:Ex w w'):Cz w' mb n u f:=h.mx (Mx.ofEx hx mb)
theorem Cz.new{mb:List Nat}{w w':World}{n g:Nat}{f:Nat->Nat}(hn:1<=n)(h:AF w' w.heap.size 3 g n (iv fun i=>(f i:Int)))(hb:∀B∈mb,B<w.heap.size):Cz w' mb n (.slice (some (g,0)) n n) f:=
 Cz.of h.li hn fun B e hB=>by
  injection e with e;have:=h.lt.1;have:=hb B hB;dsimp only at *;omega
def Mq(w:World)(mb:List Nat)(n:Nat)(o:Option (Nat->Nat))(u:Value):Prop:=match o with
 | none=>u= .slice none 0 0
 | some r=>Cz w mb n u r
theorem Mq.mx{mb aA:List Nat}{w w':World}{n:Nat}{o:Option (Nat->Nat)}{u:Value}(h:Mq w mb n o u)(hx:Mx mb aA w w'):Mq w' aA n o u:=by
 cases o with
 | none=>exact h
 | some r=>exact Cz.mx (show Cz w mb n u r from h) hx
structure Sz(w:World)(base n tb rb gb:Nat)(rr:Nat->Nat)(gv:Nat->Value)(V:Nat->Nat->Value)(mb:List Nat)(t:Tw):Prop where
 c0:w.cell? (tb,0)=some (.int .i64 n)
 c1:w.cell? (tb,1)=some (.slice (some (rb,0)) n n)
 c2:w.cell? (tb,2)=some (.slice (some (gb,0)) n n)
 tm:tb ∉ mb
 ro:∀b,b<n->w.cell? ⟨rb,b,none⟩=some (.slice (some ⟨rr b,0,none⟩) n n)
 rm:rb ∉ mb
 row:∀b,b<n->AF w base 22 (rr b) n (V b)
 rep:∀b x,b<n->x<n->Mq w mb n (t.R b x) (V b x)
 go:AF w base 37 gb n gv
 gro:∀b,b<n->∃vals:List Value,w.ownsRow base 22 1 (gv b) (t.g b).length vals/\∀(i:Nat) (f:Nat->Nat) (u:Value),(t.g b)[i]?=some f->vals[i]?=some u->Cz w mb n u f
 gm:gb∈mb
 rrm:∀b,b<n->rr b∈mb
 gvm:∀b B,b<n->(gv b).ownBlock=some B->B∈mb/\B≠gb/\∀c,c<n->B≠rr c
 grr:∀b,b<n->gb≠rr b
 rri:∀b c,b<n->c<n->rr b=rr c->b=c
 gvi:∀b c B,b<n->c<n->(gv b).ownBlock=some B->(gv c).ownBlock=some B->b=c
 lo:∀B∈mb,base<=B/\B<w.heap.size
section
variable {w:World} {base n tb rb gb:Nat} {rr:Nat->Nat} {gv:Nat->Value} {V:Nat->Nat->Value} {mb:List Nat} {t:Tw}
theorem Sz.ex(h:Sz w base n tb rb gb rr gv V mb t){w':World}(hx:Ex w w'):Sz w' base n tb rb gb rr gv V mb t:=
 ⟨hx.cell h.c0,hx.cell h.c1,hx.cell h.c2,h.tm,fun b hb=>hx.cell (h.ro b hb),h.rm,fun b hb=>(h.row b hb).ex hx,fun b x hb aA=>(h.rep b x hb aA).mx (Mx.ofEx hx mb),h.go.ex hx,fun b hb=>by
  obtain⟨vals,h1,h2⟩:=h.gro b hb;exact⟨vals,Ai h1 hx,fun i f u a c=>(h2 i f u a c).ex hx⟩,h.gm,h.rrm,h.gvm,h.grr,h.rri,h.gvi,fun B hB=>⟨(h.lo B hB).1,Nat.lt_of_lt_of_le (h.lo B hB).2 hx.size⟩⟩
theorem Sz.low(h:Sz w base n tb rb gb rr gv V mb t):∀B∈mb,B<w.heap.size:=fun B hB=>(h.lo B hB).2
theorem cd{P:Prop}(h:P:=by simp[World.setCell]):P:=h
theorem Sz.setRep(h:Sz w base n tb rb gb rr gv V mb t){b x:Nat}{q:Nat->Nat}{u:Value}(hb:b<n)(hx:x<n)(hu:Cz w mb n u q):
  Sz (w.setCell (rr b,x) u) base n tb rb gb rr gv (fun c=>if c=b then Ay (V b) x u else V c) mb (MF t b x q)/\Mx mb mb w (w.setCell (rr b,x) u):=by
 have hm:=h.rrm b hb;have aB:(w.setCell (rr b,x) u).heap.size=w.heap.size:=cd;have aA:Mx mb mb w (w.setCell (rr b,x) u):=⟨rfl,rfl,rfl,ac,fun i hi hn=>Below.heap_setCell _ _ _ _ (fun e=>hn (by have e:i=rr b:=e;rw[e];exact hm)),fun B hB=> .inl hB⟩;refine⟨⟨aA.cell h.c0 h.tm,aA.cell h.c1 h.tm,aA.cell h.c2 h.tm,h.tm,fun c hc=>aA.cell (h.ro c hc) h.rm,h.rm,fun c hc=>?_,fun c y hc hy=>?_,h.go.other (h.grr b hb) u,fun c hc=>?_,h.gm,h.rrm,h.gvm,h.grr,h.rri,h.gvi,fun B hB=>by rw[aB];exact h.lo B hB⟩,aA⟩
 .by_cases e:c=b
  .subst e;rw[if_pos rfl];exact(h.row c hc).set x u
  .rw[if_neg e];exact(h.row c hc).other (fun e2=>e (h.rri c b hc hb e2)) u
 .show Mq _ mb n (if c=b/\y=x then some q else t.R c y) ((if c=b then Ay (V b) x u else V c) y)
  by_cases e:c=b
  .subst e;rw[if_pos rfl];by_cases e2:y=x
   .subst e2;rw[if_pos ⟨rfl,rfl⟩,Ab];exact Cz.mx hu aA
   .rw[if_neg (fun e3=>e2 e3.2),Ae _ _ e2];exact(h.rep c y hc hy).mx aA
  .rw[if_neg (fun e3=>e e3.1),if_neg e];exact(h.rep c y hc hy).mx aA
 .obtain⟨vals,h1,h2⟩:=h.gro c hc;exact⟨vals,Ac h1 (fun e=>(h.gvm c _ hc e).2.2 b hb rfl) u,fun i f v a d=>(h2 i f v a d).mx aA⟩
theorem za0{P:Prop}(h:P:=by
 have:=h.lo B h1;exact⟨this.1,by omega⟩):P:=h
theorem Sz.addGen(h:Sz w base n tb rb gb rr gv V mb t){b:Nat}{p:Nat->Nat}{u:Value}(hb:b<n)(hu:Cz w mb n u p){w':World}{v':Value}{vals:List Value}(hv:∀(i:Nat) (f:Nat->Nat) (u:Value),(t.g b)[i]?=some f->vals[i]?=some u->Cz w mb n u f)
  (ha:Bt w w' base 22 1 (gv b) v' (t.g b).length vals [u]):
  ∃aH,Sz (w'.setCell (gb,b) v') base n tb rb gb rr (Ay gv b v') V aH (Sy t b p)/\Mx mb aH w (w'.setCell (gb,b) v'):=by
 obtain⟨o,hg⟩:=ha.gr;have hgs:=ha.grow;have aO:∀B,v'.ownBlock=some B->B∈mb∨w.heap.size<B:=fun B e=>by
  rcases ha.at_ with h1|h1
  .rw[h1]at e;exact .inl (h.gvm b B hb e).1
  .rw[h1]at e;injection e with e;right;omega
 have aF:∀i,i<w.heap.size->some i≠(gv b).ownBlock->w'.heap[i]?=w.heap[i]?:=fun i hi aE=>by
  have h1:=hg.block i aq aE;rw[h1];exact((Ex.refl w).alloc o).block i hi
 have aJ:(w'.setCell (gb,b) v').heap.size=w'.heap.size:=cd;have aM:=ha.own.lt;have aD:w'.os=w.os/\w'.tape=w.tape/\w'.output=w.output:=⟨hg.os.trans rfl,hg.tape.trans rfl,hg.output.trans rfl⟩;have aB:Mx mb (v'.ownBlock.toList++mb) w (w'.setCell (gb,b) v'):=by
  refine⟨aD.1,aD.2.1,aD.2.2,by rw[aJ];omega,fun i hi hn=>?_,fun B hB=>?_⟩
  .rw[Below.heap_setCell _ _ _ _ (fun e=>hn (by have e:i=gb:=e;rw[e];exact h.gm)),aF i hi (fun e=>hn (h.gvm b i hb e.symm).1)]
  .rcases List.mem_append.1 hB with h1|h1
   .rcases aO B bt with h2|h2
    .exact .inl h2
    .exact .inr ac
   .exact .inl h1
 have aC:∀ {e:TypeId} {size:Nat} {v:Value} {m:Nat} {xs:List Value},w.ownsRow base e size v m xs->AT v (gv b)->v.ownBlock≠some gb->(w'.setCell (gb,b) v').ownsRow base e size v m xs:=fun k hk aE=>
  Ac (ha.row k hk).1 (by exact aE) _
 have aA:∀B,(gv b).ownBlock=some B->B≠gb/\∀c,c<n->B≠rr c:=fun B e=>(h.gvm b B hb e).2;have aL:∀g,(∀B,(gv b).ownBlock=some B->B≠g)->∀(m cap:Nat),AT (.slice (some ⟨g,0,none⟩) m cap) (gv b):=fun g hh m cap=>by
  right;intro e;exact hh g e.symm rfl
 refine⟨v'.ownBlock.toList++mb,⟨aB.cell h.c0 h.tm,aB.cell h.c1 h.tm,aB.cell h.c2 h.tm,fun hc=>?_,fun c hc=>aB.cell (h.ro c hc) h.rm,fun hc=>?_,fun c hc=>?_,fun c y hc hy=>(h.rep c y hc hy).mx aB,?_,fun c hc=>?_,List.mem_append_right _ h.gm,fun c hc=>List.mem_append_right _ (h.rrm c hc),fun c B hc e=>?_,h.grr,h.rri,fun c d B hc hd e1 e2=>?_,fun B hB=>?_⟩,aB⟩
 .rcases aB.mb tb hc with h1|h1
  .exact h.tm h1
  .have:=World.block_lt_of_cell? _ _ h.c0;dsimp only at this;omega
 .rcases aB.mb rb hc with h1|h1
  .exact h.rm h1
  .have:=World.block_lt_of_cell? _ _ (h.ro b hb);dsimp only at this;omega
 .exact aC (h.row c hc) (aL (rr c) (fun B e=>(aA B e).2 c hc) n n) (fun e=>h.grr c hc (by injection e with e;exact e.symm))
 .have h1:=(ha.row h.go (aL gb (fun B e=>(aA B e).1) n n)).1;have h2:AF w' base 37 gb n gv:=h1;exact h2.set b v'
 .by_cases e:c=b
  .subst e;refine⟨vals ++ [u],?_,fun i f v h1 h2=>?_⟩
   .rw[Ab];show World.ownsRow _ base 22 1 v' (if c=c then t.g c ++ [p] else t.g c).length (vals ++ [u])
    rw[if_pos rfl,List.length_append];refine Ac ha.own (fun e=>?_) _;rcases ha.at_ with h3|h3
    .rw[h3]at e;exact(aA _ e).1 rfl
    .rw[h3]at e;injection e with e;have:=h.go.lt.2;dsimp only at e;omega
   .have h1:(if c=c then t.g c ++ [p] else t.g c)[i]?=some f:=h1;rw[if_pos rfl]at h1;have hn:vals.length=(t.g c).length:=by have:=ha.old.1;omega
    by_cases hi:i<(t.g c).length
    .rw[List.getElem?_append_left hi]at h1;rw[List.getElem?_append_left ac]at h2;exact(hv i f v h1 h2).mx aB
    .have aN:i=(t.g c).length:=by
      have:=(List.getElem?_eq_some_iff.1 h1).1;rw[List.length_append]at this;simp at this;omega
     subst aN;rw[List.getElem?_append_right ac]at h1;rw[List.getElem?_append_right ac,hn]at h2;simp at h1 h2;subst h1 h2;exact hu.mx aB
  .obtain⟨aG,h1,h2⟩:=h.gro c hc;refine⟨aG,?_,fun i f v h3 h4=>?_⟩
   .rw[Ae _ _ e];show World.ownsRow _ base 22 1 (gv c) (if c=b then t.g c ++ [p] else t.g c).length aG
    rw[if_neg e];refine aC h1 ?_ (fun e2=>(h.gvm c _ hc e2).2.1 rfl);unfold AT
    cases e2:(gv c).ownBlock with
    | none=>exact .inl rfl
    | some B=>right;intro e3;exact e (h.gvi c b B hc hb e2 e3.symm)
   .have h3:(if c=b then t.g c ++ [p] else t.g c)[i]?=some f:=h3;rw[if_neg e]at h3;exact(h2 i f v h3 h4).mx aB
 .by_cases e3:c=b
  .subst e3;rw[Ab]at e;refine⟨List.mem_append_left _ (by rw[e];simp),?_⟩;rcases ha.at_ with h1|h1
   .rw[h1]at e;exact aA B e
   .rw[h1]at e;injection e with e;subst e;have:=h.go.lt.2;exact⟨ac,fun d hd=>by have:=(h.row d hd).lt.2;omega⟩
  .rw[Ae _ _ e3]at e;have:=h.gvm c B hc e;exact⟨List.mem_append_right _ this.1,this.2⟩
 .have aI:∀ {c d B},c=b->d≠b->d<n->v'.ownBlock=some B->(gv d).ownBlock=some B->False:=fun {c d B} e hd aK k1 k2=>by
   rcases ha.at_ with h1|h1
   .rw[h1]at k1;exact hd (h.gvi d b B aK hb k2 k1)
   .rw[h1]at k1;injection k1 with k1;have:=(h.lo B (h.gvm d B aK k2).1).2;omega
  by_cases ec:c=b <;> by_cases ed:d=b
  .rw[ec,ed]
  .rw[ec,Ab]at e1;rw[Ae _ _ ed]at e2;exact(aI (c:=c) ec ed hd e1 e2).elim
  .rw[Ae _ _ ec]at e1;rw[ed,Ab]at e2;exact(aI (c:=d) ed ec hc e2 e1).elim
  .rw[Ae _ _ ec]at e1;rw[Ae _ _ ed]at e2;exact h.gvi c d B hc hd e1 e2
 .rw[aJ];rcases List.mem_append.1 hB with h1|h1
  .exact aM B bt
  .exact za0
end
def CJ(l:List Int):Nat->Nat:=fun i=>if i<l.length then(l.getD i 0).toNat else i
theorem F8{n:Nat}{f:Nat->Nat}(hf:AY n f):CJ (li n f)=f:=funext fun i=>by
 unfold CJ;rw[BB];by_cases hi:i<n
 .rw[if_pos hi,List.getD_eq_getElem?_getD,Dm hi];rfl
 .rw[if_neg hi,hf.off i ac]
def MN(l:List Int):List Int × Int:=if BA l≠0 then([],BA l) else(li l.length (AS l.length (CJ l)),0)
def InvR(l:List Int)(r:Ending)(w':World):Prop:=∃v,r= .returned (.tuple #[v,.int .i64 (MN l).2])/\Aj w' v (MN l).1
theorem TC{l k:List Int}{e:Int}{v:Value}{w':World}(h:MN l=(k,e))(hv:Aj w' v k):InvR l (.returned (.tuple #[v,e])) w':=⟨v,by rw[h],by rw[h];exact hv⟩
theorem ZE(w:World):B9 w (.slice none 0 0) []:=⟨[],Sl.nil w 1,fun i r u h=>by simp at h⟩
theorem EI{w:World}{a:Option Addr}{n cap:Nat}{f:Nat->Nat}(h:Aj w (.slice a n cap) (li n f))(hn:0<n):∃b o,a=some ⟨b,o,none⟩/\b<w.heap.size/\∀j,j<n->w.cell? ⟨b,o+j,none⟩=some (.int .i64 (f j:Int)):=by
 obtain⟨a',cap',e,_,_,h2⟩:=DV h;injection e with e1 e2 e3;subst e1;obtain⟨b,o,h3,h4⟩:=h2 hn;exact⟨b,o,h3,World.block_lt_of_cell? _ _ (h4 0 hn),h4⟩
structure Ct(w0 wr:World)(base g n:Nat)(sf:Nat->Bool)(cyv:Value)(cyc:List Int)(cv:Value)(M:List (List Int))(vals:List Value):Prop where
 sn:AF wr w0.heap.size 4 g n (bv sf)
 cy:wr.ownsRow base 3 1 cyv cyc.length (Ap cyc)
 m:BF wr base cv M vals
 ap1:AT cyv cv
 ap2:∀u∈vals,AT u cyv
 gb:g<base
 ex:Ex w0 wr
 wb:base<=wr.heap.size
section
variable {w0 wr:World} {base g n:Nat} {sf:Nat->Bool} {cyv:Value} {cyc:List Int} {cv:Value} {M:List (List Int)} {vals:List Value}
theorem Ct.later(h:Ct w0 wr base g n sf cyv cyc cv M vals){w':World}(hx:Ex wr w'):Ct w0 w' base g n sf cyv cyc cv M vals:=
 ⟨h.sn.ex hx,Ai h.cy hx,h.m.ex hx,h.ap1,h.ap2,h.gb,h.ex.trans hx,Nat.le_trans h.wb hx.size⟩
theorem Ct.congr(h:Ct w0 wr base g n sf cyv cyc cv M vals){sf':Nat->Bool}(hc:∀x,x<n->sf x=sf' x):Ct w0 wr base g n sf' cyv cyc cv M vals:=
 ⟨h.sn.bcongr hc,h.cy,h.m,h.ap1,h.ap2,h.gb,h.ex,h.wb⟩
theorem Ct.mark(h:Ct w0 wr base g n sf cyv cyc cv M vals)(x:Nat):Ct w0 (wr.setCell (g,x) (.bool true)) base g n (Ay sf x true) cyv cyc cv M vals:=
 ⟨by rw[<-Su];exact h.sn.set x _,Ac h.cy (fun e=>by have:=(h.cy.lt _ e).1;have:=h.gb;dsimp only at *;omega) _,h.m.setNe h.gb _,h.ap1,h.ap2,h.gb,h.sn.exSet (Nat.le_refl _) h.ex x _,by have:=h.wb;simpa[World.setCell]using this⟩
theorem Ct.app(h:Ct w0 wr base g n sf cyv cyc cv M vals){x:Int}{w':World}{v':Value}(ha:Bt wr w' base 3 1 cyv v' cyc.length (Ap cyc) [.int .i64 x]):Ct w0 w' base g n sf v' (cyc ++ [x]) cv M vals:=by
 have aC:cyv.ownBlock≠some g:=fun e=>by have:=(h.cy.lt _ e).1;have:=h.gb;omega
 have aA:=ha.row h.m.cvo h.ap1.symm;have hn:=h.m.len;have aB:∀u∈vals,∃L:List Int,wr.ownsRow base 3 1 u L.length (Ap L):=fun u hu=>by
  obtain⟨i,hi,e⟩:=List.getElem_of_mem hu;exact⟨_,h.m.row i (M[i]'ac) u (List.getElem?_eq_getElem _) au⟩
 refine⟨(ha.arr h.sn aC).1,?_,⟨aA.1,fun i r u h1 h2=>(ha.row (h.m.row i r u h1 h2) (h.ap2 u (List.mem_of_getElem? h2))).1,h.m.apart⟩,aA.2.symm,fun u hu=>?_,h.gb,ha.ex h.ex (by have:=h.gb;have:=h.sn.lt.1;omega),by have:=ha.grow;have:=h.wb;omega⟩
 .have:=ha.own;rw[List.length_append];simpa[Ap]using this
 .obtain⟨L,hL⟩:=aB u hu;exact(ha.row hL (h.ap2 u hu)).2
theorem Ct.push(h:Ct w0 wr base g n sf cyv cyc cv M vals){w':World}{v':Value}(ha:Bt wr w' base 22 1 cv v' M.length vals [cyv]):Ct w0 w' base g n sf (.slice none 0 0) [] v' (M ++ [cyc]) (vals ++ [cyv]):=by
 have aA:cv.ownBlock≠some g:=fun e=>by have:=(h.m.cvo.lt _ e).1;have:=h.gb;omega
 refine⟨(ha.arr h.sn aA).1,World.ownsRow_nil _ _ _ _,h.m.app h.cy h.ap1 ha,AT.nil _,fun u _=>?_,h.gb,ha.ex h.ex (by have:=h.gb;have:=h.sn.lt.1;omega),by have:=ha.grow;have:=h.wb;omega⟩;exact(AT.nil u).symm
theorem Ct.start{w1:World}{n:Nat}(h:AF w1 w0.heap.size 4 w0.heap.size n (fun _=> .bool false))(hx:Ex w0 w1){sf:Nat->Bool}(hs:∀x,x<n->sf x=false):Ct w0 w1 (w0.heap.size+1) w0.heap.size n sf (.slice none 0 0) [] (.slice none 0 0) [] []:=
 ⟨h.congr fun j hj=>by show _=Value.bool (sf j);rw[hs j hj],World.ownsRow_nil _ _ _ _,BF.nil _ _,AT.nil _,fun u h'=>absurd h' (List.not_mem_nil),ac,hx,by have:=h.lt.2;omega⟩
end
theorem MH(w:World)(l:List Int)(v:Value)(hl:Aj w v l):
  Calls Tryz.prog 48 #[v] w fun r w'=>InvR l r w'/\Ex w w':=by
 have HL:=Aa hl;obtain⟨a,cap,rfl,_,_,_⟩:=hl.open;have aD:=Aa (FR w l _ hl);obtain⟨e,he⟩:=nA (BA l);rw[he]at aD;clear hl;by_cases h0:e=0
 .subst h0;obtain⟨n,f,h1,h2,hn,hf,rfl⟩:=Fd he;have HP:=Aa (show MN (li n f)=(li n (AS n f),0) from by unfold MN;rw[he,if_neg ae,F8 hf,BB]);have aF:=Aa (fun w1 (h:Ex w w1)=>Ff w1 n f _ (HL.o.ex h) ac hf);rw[BB]at aF aD ⊢;clear he hn hf;go_enter Tryz.func48,Tryz.ntmps48
  go_wp2_with (first|(go_at_call 57;refine aD.o.mono ?_;rintro e w1⟨rfl,aA⟩;have aC:=Aa aA;clear aA)|(go_at_call 109;refine(aF.o _ aC.o).mono ?_;rintro e w2⟨g,rfl,aB,aE⟩;have aH:=Aa aB.li;have aG:=Aa (aC.o.trans aE);clear aB aE))
  go_ret2;exact⟨TC HP.o aH.o,aG.o⟩
 .have HP:=Aa (show MN l=([],e) from by unfold MN;rw[he,if_pos h0]);have hb:(e !=0)=true:=by simpa using h0
  clear h0 he;go_enter Tryz.func48,Tryz.ntmps48
  go_wp2_with (go_at_call 57;refine aD.o.mono ?_;rintro e w1⟨rfl,aA⟩;have aC:=Aa aA;clear aA)
  go_ret2;exact⟨TC HP.o (AR _),aC.o⟩
theorem SN(w:World)(n:Nat)(c:Nat->Value)(v:Value)(hv:Sl w v n 1 (vs n c))(hn:1<=n)(hn2:n<=1000)(h1:∀j,j<n->(c j).oneCell'=true):
  Calls Tryz.prog 209 #[v] w fun r w'=>∃g cap,r= .returned (.slice (some ⟨g,0,none⟩) n cap)/\Bd w' w.heap.size 22 g n cap c/\Ex w w':=by
 have HV:=Aa hv;obtain⟨_,a,cap,rfl,s1,s2,s3⟩:=hv;obtain⟨b,o,rfl,_⟩:=s3 ac;have aC:=fun w'=>AP (P:=Tryz.prog) w' 37 22 (some ⟨b,o,none⟩) n cap Tryz.underlying37;simp only[Option.isNone]at aC;have aG:=Aa (show ∀u∈vs n c,u.oneCell'=true from by
  intro u hu;unfold vs at hu;obtain⟨j,hj,rfl⟩:=List.mem_map.1 hu;exact h1 j (List.mem_range.1 hj))
 clear s3 h1;go_enter Tryz.func209,Tryz.ntmps209
 go_wp2_with (at_builtin;refine A9 _ rfl _ _ 37 rfl w.heap.size 22 (.slice none 0 0) 1 24 Tryz.underlying37 BG rfl ae _ 0 [] rfl (Bv w 22) (.slice (some ⟨b,o,none⟩) n cap) n (vs n c) rfl (HV.o.ex ((Ex.refl w).alloc _)) aG.o ai ac ag ?_)
 intro v1 w1 aA aE aF;have aD:Ex w w1:=Ex.grown ((Ex.refl w).alloc _) (Bv w 22) (Nat.le_refl _) aE
 try simp only[List.nil_append,Nat.zero_add]at aA
 obtain⟨g,c2,rfl,aB⟩:=Kh aA hn;have HO:=Aa aB;have HX:=Aa aD;clear aB aA aE aF aD aC
 try simp only[Nat.zero_add]
 go_wp2_with fail
 go_ret;exact⟨g,c2,rfl,HO.o,HX.o⟩
theorem Uu(w:World){base n tb rb gb:Nat}{rr:Nat->Nat}{gv:Nat->Value}{V:Nat->Nat->Value}{mb:List Nat}{t:Tw}(hm:Sz w base n tb rb gb rr gv V mb t)(hG:C8 n t)(hn1:1<=n)(hn:n<=64)
  (u:Value) (f:Nat->Nat) (b:Nat) (hb:b<=n) (hu:Aj w u (li n f)) (hP:AY n f):
  Calls Tryz.prog 208 #[.pointer (some (tb,0)),u,b] w fun r w'=>∃v,r= .returned (.tuple #[v,((DP n t.R (n-b) b f).2:Int)])/\Ex w w':=by
 obtain⟨HM,HG,HU,HP⟩:=Eq hm hG hu hP;obtain⟨ua,uc,rfl,_,_,_⟩:=DV hu;obtain⟨E,hE⟩:=nA (DP n t.R (n-b) b f);have HE:=Aa hE;rw[hE];have aL:∀(a:Option Addr) (m cap:Nat) w',(binOp .eql 22 (.slice a m cap) (.slice none 0 0)).run Tryz.prog w'= .ok (.bool a.isNone) w':=fun a m cap w'=>AP (P:=Tryz.prog) w' 22 3 a m cap Tryz.underlying22;have aE:=Aa aL;clear hm hG hu hP hE aL;go_enter Tryz.func208,Tryz.ntmps208
 go_wp2_with fail
 go_loopw [1,2] (fun p' b' wr=>∃(c:Nat) (h:Nat->Nat) (a:Option Addr) (cap:Nat),c<=n/\b'= .int .i64 c/\p'= .slice a n cap/\Hia (Aj wr (.slice a n cap) (li n h))/\Hia (AY n h)/\Hia (DP n t.R (n-c) c h=E)/\Hia (Ex w wr)) (fun _ b' _=>n-(intOf b').toNat)
 case atStart=>exact⟨b,f,ua,uc,hb,rfl,rfl,HU,HP,HE,Aa (Ex.refl _)⟩
 case round=>
  clear HU HP HE;obtain⟨c,h,a,cap,hc,rfl,rfl,hu,hp,he,hx⟩:=hrel;have c0:=hx.o.cell HM.o.c0;have c1:=hx.o.cell HM.o.c1;by_cases hcn:c<n
  .obtain⟨pb,po,rfl,_,aH⟩:=EI hu.o ac;have aK:=hp.o.lt c hcn;have d1:=aH c hcn;have d2:=hx.o.cell (HM.o.ro c hcn);have d3:=hx.o.cell ((HM.o.row c hcn).cell aK);have aA:=HM.o.rep c (h c) hcn aK;have i1:(0:Int)<=(c:Int):=by omega
   have i2:(c:Int)<(n:Int):=ac;have i3:(0:Int)<=(h c:Int):=ac;have i4:(h c:Int)<(n:Int):=ac
   cases hR:t.R c (h c) with
   | none=>
    rw[hR]at aA;have aA:V c (h c)= .slice none 0 0:=aA;rw[aA]at d3;have aD:=Aa (show E=(h,c) from by
     rw[<-he.o,show n-c=n-c-1+1 by omega];unfold DP;rw[hR])
    have aC:=aE.o none 0 0;simp only[Option.isNone]at aC;clear aH aA hR he hp;go_wp2_with fail
    go_quiet (fail)
    go_wp2_with fail
    go_ret2;refine⟨.slice (some ⟨pb,po,none⟩) n cap,?_,hx.o.drewN _⟩;rw[aD.o];rfl
   | some r=>
    rw[hR]at aA;have aA:Cz w mb n (V c (h c)) r:=aA;obtain⟨_,_,aG,aT,aS⟩:=HG.o.rep _ _ _ hR;obtain⟨vb,vo,vc,hV,_,_,_,_⟩:=(aA.ex hx.o).at_;have aQ:=Aa (aA.ex hx.o).sl;rw[hV]at d3 aQ;have aD:=Aa (show DP n t.R (n-(c+1)) (c+1) (Ak h (AS n r))=E from by
     rw[<-he.o,show n-c=n-(c+1)+1 by omega]
     conv=>rhs;unfold DP
     rw[hR])
    have aC:=aE.o (some ⟨vb,vo,none⟩) n vc;simp only[Option.isNone]at aC;have aV:=Aa aG;have aP:=Aa (hp.o.comp aG.inv);have aW:=Aa (fun w1 (aF:Ex wr w1)=>Ff w1 n r _ (aQ.o.ex aF) ac aV.o);have aU:=Aa (fun w1 (aF:Ex wr w1) z hz=>EL w1 n h (AS n r) _ z (hu.o.ex aF) hz ac hp.o.lt);clear aH aA hR he aG aT aS hV;go_wp2_with fail
    go_quiet (fail)
    have aM:=Aa ((Ex.refl wr).drewN nq);go_wp2_with (first|(go_at_call 109;refine(aW.o _ aM.o).mono ?_;rintro e w2⟨g2,rfl,aB,aJ⟩;have aX:=Aa aB.li;have aO:=Aa (aM.o.trans aJ);clear aB aJ)|(go_at_call 108;refine(aU.o _ aO.o _ aX.o).mono ?_;rintro e w3⟨g3,rfl,aB,aI⟩;have aR:=Aa aB.li;have aN:=Aa (hx.o.trans (aO.o.trans aI));clear aB aI))
    go_roundw
    case rel=>first|exact⟨c+1,Ak h (AS n r),some ⟨g3,0,none⟩,n,ac,by go_num,rfl,aR,aP,aD,aN⟩|((repeat apply Exists.intro);exact⟨⟨c+1,Ak h (AS n r),some ⟨g3,0,none⟩,n,ac,by go_num,rfl,aR,aP,aD,aN⟩,rfl⟩)
    case measure=>simp[intOf];omega
  .obtain rfl:c=n:=by omega
   have aD:=Aa (show E.2=c from by
    rw[<-he.o,Nat.sub_self];rfl)
   clear he hp;go_wp2_with fail
   go_quiet (fail)
   go_wp2_with fail
   go_ret2;refine⟨.slice a c cap,?_,hx.o.drewN _⟩;rw[aD.o];rfl
end Go.Proofs.YtehieobniamagaaGreat
