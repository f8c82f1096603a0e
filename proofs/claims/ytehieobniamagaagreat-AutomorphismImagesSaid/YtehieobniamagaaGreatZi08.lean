/- Plain: products of rows, row operations, pivots, the vectors of the kernel. -/
import Derived.Deep.CutRange
import Derived.Deep.LoopGhost
import Derived.Test.YtehieobniamagaaGreatZi07
namespace Go.Proofs.YtehieobniamagaaGreat
open List renaming all_eq_true→υ,getElem?_eq_some_iff→θ,getElem?_append_left→ο,getElem?_append_right→τ,getElem?_eq_getElem→γ,getElem_of_mem→χ,range→ξ,mem_range→κ,find?_eq_none→δa,any_eq_true→ϗ,getD_eq_getElem?_getD→δ,getElem?_eq_none_iff→ζn
open Nat renaming pow_pos→ϕ,le_refl→ζ
open Go.RowKit
set_option linter.all false
set_option maxRecDepth 100000
set_option maxHeartbeats 1000000
theorem Xd{p m:Nat}(hp:1<=p){a b:Nat}(hb:b<p^m)(h:AK p m a b=0):b=CL p m a:=by
 have h1:AK p m (CL p m a) (AK p m a b)=b:=by
  rw[<-BK hp,DV (CL p m a),CW hp,DQ hp hb]
 rw[h,Ce hp (Dk hp a)]at h1;exact h1.symm
theorem Vj{p m:Nat}{low:Vc}(hp:1<=p)(x y:Nat):Am p m low (CL p m x) y=CL p m (Am p m low x y):=by
 refine Xd hp (A7 hp _ _) ?_;rw[<-Jg hp,CW hp,BY hp]
theorem Bc{p m:Nat}{low:Vc}(hp:1<=p)(x:Nat):Am p m low x 0=0:=by rw[AY,BY hp]
theorem Gu{q:Nat}{x:Int}(h0:0<=x)(h:x<q):((Av q x:Nat):Int)=x:=by unfold Av;rw[if_pos ⟨h0,h⟩];omega
theorem CN(q:Nat):Av q 0=0:=by unfold Av;split <;> rfl
theorem Ly{q:Nat}{r:List Int}(h:Ct q r=0):∀x∈r,0<=x/\x<q:=fun x hx=>by
 unfold Ct at h;split at h
 .rename_i h1;have:=υ.1 h1 x hx;unfold GU at this;exact of_decide_eq_true this
 .cases h
theorem T6{q:Nat}{r:List Int}(h:∀x∈r,0<=x/\x<q):Ct q r=0:=by
 unfold Ct;rw[if_pos];rw[υ];intro x hx;unfold GU;exact decide_eq_true (h x hx)
theorem Le{p m:Nat}{ml:List Int}(hp:2<=p)(hm:1<=m)(hF:Hc p m (lw ml)){z:Nat}(h1:1<=z)(h2:z<p^m):Am p m (lw ml) z (Eg p m ml z)=1:=by
 obtain⟨y,y1,y2,y3⟩:=hF.inv hp hm h1 h2;rw[Ou hp hm hF h2 h1 y2 y3,y3]
section
variable {p m:Nat} {ml:List Int} {N:Nat}
theorem AM(N:Nat)(x:Nat->Int):(il N x).length=N:=by unfold il;simp
theorem zc2{P:Prop}(h:P:=by
 rw[List.getD_eq_getElem?_getD,List.getElem?_eq_getElem (by omega)];rfl):P:=h
theorem T9(hp:2<=p){r:List Int}(hr:r.length=N){x y:Nat->Int}{i:Nat}(hx:x i=0)(h:∀j,j<N->j≠i->r.getD j 0≠0->y j=x j):∀n,n<=N->
  Cc p m ml (r.take n) ((il N y).take n) 0=if i<n then AK p m (Cc p m ml (r.take n) ((il N x).take n) 0) (Am p m (lw ml) (Av (p^m) (r.getD i 0)) (Av (p^m) (y i))) else Cc p m ml (r.take n) ((il N x).take n) 0
 | 0,_=>by simp[Cc]
 | n+1,hn=>by
  have ih:=T9 hp hr hx h n ac;have hq:1<=p^m:=ϕ ac;have aA:r[n]?=some (r.getD n 0):=by
   exact zc2
  rw[GR r (il N y) n 0 _ _ aA (AT (show n<N by omega) _),GR r (il N x) n 0 _ _ aA (AT (show n<N by omega) _),ih];by_cases e:n=i
  .subst e;rw[if_neg ac,if_pos ac,hx,CN,Bc ac,Ce ac (Kd ac _ _ _ ac)]
  .have he:Am p m (lw ml) (Av (p^m) (r.getD n 0)) (Av (p^m) (y n))=Am p m (lw ml) (Av (p^m) (r.getD n 0)) (Av (p^m) (x n)):=by
    by_cases h0:r.getD n 0=0
    .rw[h0,CN,BY ac,BY ac]
    .rw[h n ac e h0]
   rw[he];by_cases hi:i<n
   .rw[if_pos hi,if_pos ac,BK ac,BK ac]
    congr 1
    exact DV _ _
   .rw[if_neg hi,if_neg ac]
theorem QM{r:List Int}(hr:r.length=N)(x:Nat->Int):Cc p m ml (r.take N) ((il N x).take N) 0=Cc p m ml r (il N x) 0:=Jh _ _ _ _ (by rw[hr];omega)
theorem LC(hp:2<=p){r:List Int}(hr:r.length=N){x y:Nat->Int}{i:Nat}(hi:i<N)(hx:x i=0)(h:∀j,j<N->j≠i->r.getD j 0≠0->y j=x j):
  Cc p m ml r (il N y) 0=AK p m (Cc p m ml r (il N x) 0) (Am p m (lw ml) (Av (p^m) (r.getD i 0)) (Av (p^m) (y i))):=by
 have:=T9 (ml:=ml) (m:=m) hp hr hx h N (ζ _);rw[if_pos hi,QM hr,QM hr]at this;exact this
end
section
variable {p m:Nat} {ml:List Int} {N R:Nat}
def dt(p m:Nat)(ml:List Int)(N:Nat)(f x:Nat->Int):Nat:=Cc p m ml (il N f) (il N x) 0
def Sv(p m:Nat)(ml:List Int)(N:Nat)(f x:Nat->Int)(n:Nat):Nat:=Cc p m ml ((il N f).take n) ((il N x).take n) 0
theorem DC(f x:Nat->Int):Sv p m ml N f x 0=0:=by unfold Sv;simp[Cc]
theorem DE(f x:Nat->Int){n:Nat}(hn:n<N):Sv p m ml N f x (n+1)=AK p m (Sv p m ml N f x n) (Am p m (lw ml) (Av (p^m) (f n)) (Av (p^m) (x n))):=
 GR _ _ n 0 _ _ (AT hn f) (AT hn x)
theorem Eu(f x:Nat->Int):Sv p m ml N f x N=dt p m ml N f x:=Jh _ _ _ _ (by rw[AM,AM];omega)
theorem dtK_lt(hp:2<=p)(f x:Nat->Int)(n:Nat):Sv p m ml N f x n<p^m:=Kd ac _ _ _ (ϕ ac)
theorem QL(hp:2<=p)(f x:Nat->Int):dt p m ml N f x<p^m:=Kd ac _ _ _ (ϕ ac)
theorem Ng:∀(l k:List Int) (s:Nat),Cc p m ml l k s=Cc p m ml k l s
 | x :: l,y :: k,s=>by unfold Cc;rw[AY,Ng l k]
 | [], [],s=>rfl
 | [],y :: k,s=>by unfold Cc;rfl
 | x :: l, [],s=>by unfold Cc;rfl
theorem Kj(f x:Nat->Int):dt p m ml N f x=dt p m ml N x f:=Ng _ _ _
theorem GC{f f' x x':Nat->Int}(hf:∀j,j<N->f j=f' j)(hx:∀j,j<N->x j=x' j):dt p m ml N f x=dt p m ml N f' x':=by
 have aA:∀n,n<=N->Sv p m ml N f x n=Sv p m ml N f' x' n:=fun n=>by
  induction n with
  | zero=>intro _;rw[DC,DC]
  | succ n ih=>intro hn;rw[DE _ _ ac,DE _ _ ac,ih ac,hf n ac,hx n ac]
 rw[<-Eu,<-Eu,aA N (ζ _)]
theorem GX(hp:2<=p){f x:Nat->Int}(hf:∀j,j<N->f j=0):dt p m ml N f x=0:=by
 have aA:∀n,n<=N->Sv p m ml N f x n=0:=fun n=>by
  induction n with
  | zero=>intro _;rw[DC]
  | succ n ih=>intro hn;rw[DE _ _ ac,ih ac,hf n ac,CN,BY ac,Ce ac (ϕ ac)]
 rw[<-Eu,aA N (ζ _)]
def BT(p m:Nat)(ml:List Int)(c:Nat)(f:Nat->Int)(j:Nat):Int:=((Am p m (lw ml) c (Av (p^m) (f j)):Nat):Int)
def Cn(p m:Nat)(ml:List Int)(v:Nat->Int)(c:Nat)(u:Nat->Int)(j:Nat):Int:=
 if u j=0 then v j else((AK p m (Av (p^m) (v j)) (Am p m (lw ml) c (Av (p^m) (u j))):Nat):Int)
theorem JL{low:Vc}(hp:1<=p)(a x y:Nat):Am p m low a (AK p m x y)=AK p m (Am p m low a x) (Am p m low a y):=by
 rw[AY,Jg hp,AY x,AY y]
theorem Ya(hp:2<=p)(c:Nat)(f x:Nat->Int):dt p m ml N (BT p m ml c f) x=Am p m (lw ml) c (dt p m ml N f x):=by
 have aA:∀n,n<=N->Sv p m ml N (BT p m ml c f) x n=Am p m (lw ml) c (Sv p m ml N f x n):=fun n=>by
  induction n with
  | zero=>intro _;rw[DC,DC,Bc ac]
  | succ n ih=>
   intro hn;rw[DE _ _ ac,DE _ _ ac,ih ac,JL ac]
   congr 1
   unfold BT;rw[AE (A7 ac _ _),Bt ac]
 rw[<-Eu,<-Eu,aA N (ζ _)]
theorem kadd4(hp:1<=p)(a b c d:Nat):AK p m (AK p m a b) (AK p m c d)=AK p m (AK p m a c) (AK p m b d):=by
 rw[BK hp,BK hp]
 congr 1
 rw[<-BK hp,<-BK hp,DV b c]
theorem Su(hp:2<=p)(v:Nat->Int)(c:Nat)(u x:Nat->Int):dt p m ml N (Cn p m ml v c u) x=AK p m (dt p m ml N v x) (Am p m (lw ml) c (dt p m ml N u x)):=by
 have hq:1<=p^m:=ϕ ac;have aA:∀n,n<=N->Sv p m ml N (Cn p m ml v c u) x n=AK p m (Sv p m ml N v x n) (Am p m (lw ml) c (Sv p m ml N u x n)):=fun n=>by
  induction n with
  | zero=>intro _;rw[DC,DC,DC,Bc ac,Ce ac ac]
  | succ n ih=>
   intro hn;rw[DE _ _ ac,DE _ _ ac,DE _ _ ac,ih ac,JL ac,kadd4 ac]
   congr 1
   unfold Cn;by_cases h0:u n=0
   .rw[if_pos h0,h0,CN,BY ac,Bc ac,Ce ac (A7 ac _ _)]
   .rw[if_neg h0,AE (GT ac _ _),Jg ac,Bt ac]
 rw[<-Eu,<-Eu,<-Eu,aA N (ζ _)]
def B9(p m:Nat)(ml:List Int)(N R:Nat)(a:Nat->Nat->Int)(x:Nat->Int):Prop:=∀i,i<R->dt p m ml N (a i) x=0
def DO(a:Nat->Nat->Int)(s k:Nat):Nat->Nat->Int:=fun i=>if i=s then a k else if i=k then a s else a i
variable {a:Nat->Nat->Int} {x:Nat->Int}
theorem B9.swp{s k:Nat}(hs:s<R)(hk:k<R):B9 p m ml N R (DO a s k) x↔B9 p m ml N R a x:=by
 unfold B9 DO;constructor
 .intro h i hi;by_cases e:i=s
  .subst e;by_cases e2:k=i
   .subst e2;have:=h k hk;rwa[if_pos rfl]at this
   .have:=h k hk;rwa[if_neg e2,if_pos rfl]at this
  .by_cases e2:i=k
   .subst e2;have:=h s hs;rwa[if_pos rfl]at this
   .have:=h i hi;rwa[if_neg e,if_neg e2]at this
 .intro h i hi;by_cases e:i=s
  .rw[if_pos e];exact h k hk
  .rw[if_neg e];by_cases e2:i=k
   .rw[if_pos e2];exact h s hs
   .rw[if_neg e2];exact h i hi
theorem B9.scl(hp:2<=p)(hm:1<=m)(hF:Hc p m (lw ml)){s c:Nat}(hs:s<R)(h1:1<=c)(h2:c<p^m):B9 p m ml N R (Ay a s (BT p m ml c (a s))) x↔B9 p m ml N R a x:=by
 unfold B9;have aA:dt p m ml N (BT p m ml c (a s)) x=0↔dt p m ml N (a s) x=0:=by
  rw[Ya hp];constructor
  .intro h;by_cases e:dt p m ml N (a s) x=0
   .exact e
   .have:=hF.ne_zero hp hm h1 h2 (show 1<=dt p m ml N (a s) x by omega) (QL hp _ _);omega
  .intro h;rw[h,Bc ac]
 constructor
 .intro h i hi;have:=h i hi;by_cases e:i=s
  .subst e;rw[Ab]at this;exact aA.1 this
  .rwa[Ac _ _ e]at this
 .intro h i hi;by_cases e:i=s
  .subst e;rw[Ab];exact aA.2 (h i hi)
  .rw[Ac _ _ e];exact h i hi
theorem B9.add(hp:2<=p){s i c:Nat}(hs:s<R)(hi:i<R)(aB:i≠s):B9 p m ml N R (Ay a i (Cn p m ml (a i) c (a s))) x↔B9 p m ml N R a x:=by
 unfold B9;constructor
 .intro h k hk;have aA:=h s hs;rw[Ac _ _ (fun e=>aB e.symm)]at aA;have:=h k hk;by_cases e:k=i
  .subst e;rw[Ab,Su hp,aA,Bc ac,Ce ac (QL hp _ _)]at this;exact this
  .rwa[Ac _ _ e]at this
 .intro h k hk;by_cases e:k=i
  .subst e;rw[Ab,Su hp,h k hk,h s hs,Bc ac,Ce ac (ϕ ac)]
  .rw[Ac _ _ e];exact h k hk
def Ra(p m R N:Nat)(a:Nat->Nat->Int):Prop:=∀i,i<R->∀j,j<N->0<=a i j/\a i j<((p^m:Nat):Int)
theorem Ra.swp{s k:Nat}(hs:s<R)(hk:k<R)(h:Ra p m R N a):Ra p m R N (DO a s k):=fun i hi j hj=>by
 unfold DO;by_cases e:i=s
 .rw[if_pos e];exact h k hk j hj
 .rw[if_neg e];by_cases e2:i=k
  .rw[if_pos e2];exact h s hs j hj
  .rw[if_neg e2];exact h i hi j hj
theorem Ra.scl(hp:1<=p){s c:Nat}(h:Ra p m R N a):Ra p m R N (Ay a s (BT p m ml c (a s))):=fun i hi j hj=>by
 by_cases e:i=s
 .subst e;rw[Ab];unfold BT;have:=A7 (p:=p) (m:=m) (low:=lw ml) hp c (Av (p^m) (a i j));omega
 .rw[Ac _ _ e];exact h i hi j hj
theorem Ra.add(hp:1<=p){s i c:Nat}(h:Ra p m R N a):Ra p m R N (Ay a i (Cn p m ml (a i) c (a s))):=fun k hk j hj=>by
 by_cases e:k=i
 .subst e;rw[Ab];unfold Cn;split
  .exact h k hk j hj
  .have:=GT (p:=p) (m:=m) hp (Av (p^m) (a k j)) (Am p m (lw ml) c (Av (p^m) (a s j)));omega
 .rw[Ac _ _ e];exact h k hk j hj
structure PV(p m R N:Nat)(a:Nat->Nat->Int)(piv:List Nat)(c:Nat):Prop where
 le:piv.length<=R
 rng:Ra p m R N a
 lt:∀(j q:Nat),piv[j]?=some q->q<c
 one:∀(j q:Nat),piv[j]?=some q->a j q=1
 zer:∀(j q i:Nat),piv[j]?=some q->i<R->i≠j->a i q=0
 tail:∀(i j:Nat),piv.length<=i->i<R->j<c->a i j=0
 lead:∀(j q k:Nat),piv[j]?=some q->k<q->a j k=0
 asc:∀(i j q r:Nat),i<j->piv[i]?=some q->piv[j]?=some r->q<r
variable {piv:List Nat} {c:Nat}
theorem PV.init(h:Ra p m R N a):PV p m R N a [] 0:=⟨ag,h,fun j q h=>by simp at h,fun j q h=>by simp at h,fun j q i h=>by simp at h,fun i j _ _ h=>ac,fun j q k h=>by simp at h,fun i j q r _ h=>by simp at h⟩
theorem PV.none(h:PV p m R N a piv c)(hz:∀k,piv.length<=k->k<R->a k c=0):PV p m R N a piv (c+1):=
 ⟨h.le,h.rng,fun j q hj=>by have:=h.lt j q hj;omega,h.one,h.zer,fun i j h1 h2 h3=>by
  by_cases e:j=c
  .rw[e];exact hz i h1 h2
  .exact h.tail i j h1 h2 ac,h.lead,h.asc⟩
theorem PV.swp(h:PV p m R N a piv c){k:Nat}(aC:piv.length<=k)(hk:k<R):PV p m R N (DO a piv.length k) piv c:=by
 refine⟨h.le,h.rng.swp ac hk,h.lt,fun j q hj=>?_,fun j q i hj hi aB=>?_,fun i j h1 h2 h3=>?_,fun j q t hj ht=>?_,h.asc⟩
 .have aA:=(θ.1 hj).1;unfold DO;rw[if_neg ac,if_neg ac];exact h.one j q hj
 .have aA:=(θ.1 hj).1;unfold DO;by_cases e:i=piv.length
  .rw[if_pos e];exact h.zer j q k hj hk ac
  .rw[if_neg e];by_cases e2:i=k
   .rw[if_pos e2];exact h.zer j q _ hj ac ac
   .rw[if_neg e2];exact h.zer j q i hj hi aB
 .unfold DO;by_cases e:i=piv.length
  .rw[if_pos e];exact h.tail k j aC hk h3
  .rw[if_neg e];by_cases e2:i=k
   .rw[if_pos e2];exact h.tail _ j (ζ _) ac h3
   .rw[if_neg e2];exact h.tail i j h1 h2 h3
 .have aA:=(θ.1 hj).1;unfold DO;rw[if_neg ac,if_neg ac];exact h.lead j q t hj ht
theorem PV.scl(hp:1<=p)(h:PV p m R N a piv c)(hs:piv.length<R){k:Nat}:PV p m R N (Ay a piv.length (BT p m ml k (a piv.length))) piv c:=by
 have hz:∀j,a piv.length j=0->BT p m ml k (a piv.length) j=0:=fun j hj=>by
  unfold BT;rw[hj,CN,Bc hp];rfl
 refine⟨h.le,h.rng.scl hp,h.lt,fun j q hj=>?_,fun j q i hj hi aA=>?_,fun i j h1 h2 h3=>?_,fun j q t hj ht=>?_,h.asc⟩
 .have aB:=(θ.1 hj).1;rw[Ac _ _ ac];exact h.one j q hj
 .have aB:=(θ.1 hj).1;by_cases e:i=piv.length
  .subst e;rw[Ab];exact hz q (h.zer j q _ hj hi aA)
  .rw[Ac _ _ e];exact h.zer j q i hj hi aA
 .by_cases e:i=piv.length
  .subst e;rw[Ab];exact hz j (h.tail _ j (ζ _) h2 h3)
  .rw[Ac _ _ e];exact h.tail i j h1 h2 h3
 .have aB:=(θ.1 hj).1;rw[Ac _ _ ac];exact h.lead j q t hj ht
theorem PV.add(hp:1<=p)(h:PV p m R N a piv c)(hs:piv.length<R){i k:Nat}(hi:i<R)(hne:i≠piv.length):PV p m R N (Ay a i (Cn p m ml (a i) k (a piv.length))) piv c:=by
 have hz:∀j,a piv.length j=0->Cn p m ml (a i) k (a piv.length) j=a i j:=fun j hj=>by
  unfold Cn;rw[if_pos hj]
 refine⟨h.le,h.rng.add hp,h.lt,fun j q hj=>?_,fun j q r hj hr aA=>?_,fun r j h1 h2 h3=>?_,fun j q t hj ht=>?_,h.asc⟩
 .have aB:=(θ.1 hj).1;by_cases e:j=i
  .subst e;rw[Ab,hz q (h.zer j q _ hj hs ac)];exact h.one j q hj
  .rw[Ac _ _ e];exact h.one j q hj
 .have aB:=(θ.1 hj).1;by_cases e:r=i
  .subst e;rw[Ab,hz q (h.zer j q _ hj hs ac)];exact h.zer j q r hj hr aA
  .rw[Ac _ _ e];exact h.zer j q r hj hr aA
 .by_cases e:r=i
  .subst e;rw[Ab,hz j (h.tail _ j (ζ _) hs h3)];exact h.tail r j h1 h2 h3
  .rw[Ac _ _ e];exact h.tail r j h1 h2 h3
 .by_cases e:j=i
  .subst e;rw[Ab,hz t (h.tail _ t (ζ _) hs (by have:=h.lt j q hj;omega))];exact h.lead j q t hj ht
  .rw[Ac _ _ e];exact h.lead j q t hj ht
theorem PV.done(h:PV p m R N a piv c)(hs:piv.length<R)(h1:a piv.length c=1)(hz:∀i,i<R->i≠piv.length->a i c=0):PV p m R N a (piv ++ [c]) (c+1):=by
 have aA:∀(j q:Nat),(piv ++ [c])[j]?=some q->piv[j]?=some q∨(j=piv.length/\q=c):=fun j q hj=>by
  by_cases e:j<piv.length
  .rw[ο e]at hj;exact .inl hj
  .rw[τ ac]at hj;obtain⟨hl,hv⟩:=θ.1 hj;simp at hl hv;exact .inr ⟨ac,hv.symm⟩
 refine⟨by simp;omega,h.rng,fun j q hj=>?_,fun j q hj=>?_,fun j q i hj hi aB=>?_,fun i j k1 k2 k3=>?_,fun j q t hj ht=>?_,fun i j q r aC hi hj=>?_⟩
 .rcases aA j q hj with k|⟨_,rfl⟩
  .have:=h.lt j q k;omega
  .omega
 .rcases aA j q hj with k|⟨rfl,rfl⟩
  .exact h.one j q k
  .exact h1
 .rcases aA j q hj with k|⟨rfl,rfl⟩
  .exact h.zer j q i k hi aB
  .exact hz i hi aB
 .simp at k1;by_cases e:j=c
  .rw[e];exact hz i k2 ac
  .exact h.tail i j ac k2 ac
 .rcases aA j q hj with k|⟨rfl,rfl⟩
  .exact h.lead j q t k ht
  .exact h.tail _ t (ζ _) hs ht
 .rcases aA j r hj with k|⟨rfl,rfl⟩
  .rcases aA i q hi with k2|⟨rfl,rfl⟩
   .exact h.asc i j q r aC k2 k
   .have:=(θ.1 k).1;omega
  .rcases aA i q hi with k2|⟨rfl,rfl⟩
   .exact h.lt i q k2
   .omega
theorem PV.dist(h:PV p m R N a piv c){i j q:Nat}(hi:piv[i]?=some q)(hj:piv[j]?=some q):i=j:=by
 have hjl:=(θ.1 hi).1;have hle:=h.le;by_cases e:i=j
 .exact e
 .exfalso;have h1:=h.one i q hi;have h2:=h.zer j q i hj ac e;omega
structure Kv(p m:Nat)(a:Nat->Nat->Int)(piv:List Nat)(c k:Nat)(x:Nat->Int):Prop where
 c1:x c=1
 pv:∀(i q:Nat),i<k->piv[i]?=some q->x q=((CL p m (Av (p^m) (a i c)):Nat):Int)
 z:∀j,j≠c->(∀i,i<k->piv[i]?≠some j)->x j=0
theorem Kv.zero:Kv p m a piv c 0 (Ay (fun _=>0) c 1):=⟨Ab _ _ _,fun i q h=>absurd h ac,fun j hj _=>Ac _ _ hj⟩
theorem Kv.succ{c0 k q:Nat}(hP:PV p m R N a piv c0)(h:Kv p m a piv c k x)(hq:piv[k]?=some q)(hc:q≠c):Kv p m a piv c (k+1) (Ay x q ((CL p m (Av (p^m) (a k c)):Nat):Int)):=by
 refine⟨by rw[Ac _ _ (fun e=>hc e.symm)];exact h.c1,fun i r hi hr=>?_,fun j hj aA=>?_⟩
 .by_cases e:i=k
  .subst e;rw[hq]at hr;injection hr with hr;subst hr;rw[Ab]
  .have:r≠q:=fun e2=>e (hP.dist (by rw[<-e2];exact hr) hq);rw[Ac _ _ this];exact h.pv i r ac hr
 .have:j≠q:=fun e=>aA k ac (by rw[e];exact hq);rw[Ac _ _ this];exact h.z j hj fun i hi=>aA i ac
theorem zdk{P:Prop}(h:P:=by
 rw[List.getD_eq_getElem?_getD,AT hj];rfl):P:=h
theorem Kv.sol(hp:2<=p)(hm:1<=m){c0:Nat}(hP:PV p m R N a piv c0)(aD:piv.length=R∨c0=N)(hc0:c0<=N)(hc:c<N)(aG:∀i:Nat,piv[i]?≠some c)(h:Kv p m a piv c piv.length x):B9 p m ml N R a x:=by
 have hq:1<p^m:=BC hp hm;intro i hi;by_cases hl:i<piv.length
 .obtain⟨q,aA⟩:∃q,piv[i]?=some q:=⟨_,γ hl⟩;have aE:q<N:=by have:=hP.lt i q aA;omega
  have aF:q≠c:=fun e=>aG i (by rw[<-e];exact aA);have aB:(il N (a i)).length=N:=AM _ _;have hg:∀j,j<N->(il N (a i)).getD j 0=a i j:=fun j hj=>by
   exact zdk
  have e1:Cc p m ml (il N (a i)) (il N (Ay (fun _=>(0:Int)) c 1)) 0=AK p m (Cc p m ml (il N (a i)) (il N fun _=>(0:Int)) 0) (Am p m (lw ml) (Av (p^m) ((il N (a i)).getD c 0)) (Av (p^m) (Ay (fun _=>(0:Int)) c 1 c))):=
   LC hp aB hc rfl fun j _ hj _=>Ac _ _ hj
  have e2:Cc p m ml (il N (a i)) (il N x) 0=AK p m (Cc p m ml (il N (a i)) (il N (Ay (fun _=>(0:Int)) c 1)) 0) (Am p m (lw ml) (Av (p^m) ((il N (a i)).getD q 0)) (Av (p^m) (x q))):=
   LC hp aB aE (Ac _ _ aF) fun j hj aH hr=>by
    rw[hg j hj]at hr;by_cases e:j=c
    .rw[e,h.c1,Ab]
    .rw[Ac _ _ e];refine h.z j e fun k hk aC=>?_;by_cases ek:k=i
     .subst ek;rw[aA]at aC;injection aC with aC;exact aH aC.symm
     .exact hr (hP.zer k j i aC hi (fun e=>ek e.symm))
  have e0:Cc p m ml (il N (a i)) (il N fun _=>(0:Int)) 0=0:=by
   have:=GX (p:=p) (m:=m) (ml:=ml) (N:=N) hp (f:=fun _=>0) (x:=a i) (fun j _=>rfl);rw[Kj]at this;exact this
  show Cc p m ml (il N (a i)) (il N x) 0=0
  rw[e2,e1,e0,hg c hc,hg q aE,hP.one i q aA,Ab,h.pv i q hl aA];have k1:Av (p^m) 1=1:=by have:=AE (q:=p^m) (x:=1) hq;exact this
  rw[k1,DQ ac (A7 ac _ _),BD hp hm (Cb ac _),AE (Dk ac _),Cr hp hm (Dk ac _),CW ac]
 .refine GX hp fun j hj=>?_;rcases aD with he|he
  .omega
  .exact hP.tail i j ac hi ac
end
theorem BZ:(Tryz.prog.info? 22).map (fun i=>(i.zero,i.size,i.bytes))=some (some (.slice none 0 0),1,24):=ah
theorem Ex.frz{w w':World}(h:Ex w w'){p:Addr}{u:Value}(hc:w.cell? p=some u)(hf:w.frozen? p=false):w'.frozen? p=false:=
 (Below.frozen h (World.block_lt_of_cell? w _ hc)).trans hf
theorem Bz.frz{w w':World}{base:Nat}{e:TypeId}{size:Nat}{v v':Value}{n:Nat}{xs news:List Value}(h:Bz w w' base e size v v' n xs news){a:Addr}{u:Value}(hc:w.cell? a=some u)(hf:w.frozen? a=false)(aA:some a.block≠v.ownBlock):w'.frozen? a=false:=by
 obtain⟨o,hg⟩:=h.gr;have aB:=World.block_lt_of_cell? _ _ hc;have e1:(w.alloc o).frozen? a=w.frozen? a:=((Ex.refl w).alloc o).frozen aB;rw[<-hf,<-e1];have h2:=hg.block a.block aq aA;unfold World.frozen?;rw[h2]
theorem ED{q:Nat}{aA:Int}{rows:List (List Int)}(h:BV q aA rows=0):0<=aA/\aA<=256/\rows.length<=256/\∀r∈rows,(r.length:Int)=aA/\Ct q r=0:=by
 unfold BV at h;split at h
 .cases h
 .split at h
  .rename_i h2;split at h
   .rename_i h1 h3;refine⟨ac,ac,ac,fun r hr=>⟨?_,?_⟩⟩
    .have:=υ.1 h2 r hr;simpa using this
    .have:=υ.1 h3 r hr;simpa using this
   .cases h
  .cases h
theorem Bd(w:World):Ak w (.slice none 0 0) []:=Sl.nil w 1
theorem Bj{w:World}{base b':Nat}{e:TypeId}{size:Nat}{v:Value}{n:Nat}{xs:List Value}(h:w.ownsRow base e size v n xs)(hb:b'<=base):w.ownsRow b' e size v n xs:=by
 exact zce
theorem Ah{w:World}{a b:Nat}{i j:Nat}{u:Value}(h:a≠b):(w.setCell (a,i) u).cell? (b,j)=w.cell? (b,j):=
 World.cell?_setCell_other _ _ _ _ (by intro e;injection e with e1;exact h e1)
theorem A5(w:World)(u:Value)(t:TypeId){n:Nat}(h:w.heap.size=n):(w.alloc (.cells #[u] t)).cell? (n,0)=some u:=by subst h;simp
theorem FT(w:World)(u:Value)(t:TypeId){n:Nat}(h:w.heap.size=n):(w.alloc (.cells #[u] t)).frozen? (n,0)=false:=by subst h;simp
structure BI(w:World)(base:Nat)(cv:Value)(M:List (List Int))(vals:List Value):Prop where
 cvo:w.ownsRow base 22 1 cv M.length vals
 row:∀(i:Nat) (r:List Int) (u:Value),M[i]?=some r->vals[i]?=some u->w.ownsRow base 3 1 u r.length (Aj r)
 apart:∀u∈vals,AD u cv
theorem BI.nil(w:World)(base:Nat):BI w base (.slice none 0 0) [] []:=⟨World.ownsRow_nil _ _ _ _,fun i r u h=>by simp at h,fun u h=>by cases h⟩
theorem BI.len{w:World}{base:Nat}{cv:Value}{M:List (List Int)}{vals:List Value}(h:BI w base cv M vals):vals.length=M.length:=by
 have:=h.cvo.1;omega
theorem BI.ex{w w':World}{base:Nat}{cv:Value}{M:List (List Int)}{vals:List Value}(h:BI w base cv M vals)(hx:Ex w w'):BI w' base cv M vals:=
 ⟨Ag h.cvo hx,fun i r u h1 h2=>Ag (h.row i r u h1 h2) hx,h.apart⟩
theorem BI.setNe{w:World}{base:Nat}{cv:Value}{M:List (List Int)}{vals:List Value}(h:BI w base cv M vals){a:Addr}(ha:a.block<base)(u:Value):BI (w.setCell a u) base cv M vals:=by
 have aA:∀ {e:TypeId} {size:Nat} {v:Value} {n:Nat} {xs:List Value},w.ownsRow base e size v n xs->v.ownBlock≠some a.block:=fun k e=>by
  have:=(k.lt _ e).1;omega
 exact⟨Ae h.cvo (aA h.cvo) u,fun i r t h1 h2=>Ae (h.row i r t h1 h2) (aA (h.row i r t h1 h2)) u,h.apart⟩
theorem BI.app{w w':World}{base:Nat}{cv aB l:Value}{M:List (List Int)}{vals:List Value}{L:List Int}(h:BI w base cv M vals)(hl:w.ownsRow base 3 1 l L.length (Aj L))(aA:AD l cv)
  (ha:Bz w w' base 22 1 cv aB M.length vals [l]):BI w' base aB (M ++ [L]) (vals ++ [l]):=by
 have hn:=h.len;have key:∀u∈vals,∃r,w.ownsRow base 3 1 u r (Aj [])∨∃L:List Int,w.ownsRow base 3 1 u L.length (Aj L):=fun u hu=>by
  obtain⟨i,hi,e⟩:=χ hu;exact⟨0,.inr ⟨_,h.row i (M[i]'ac) u (γ _) au⟩⟩
 refine⟨by simpa using ha.own,fun i r u h1 h2=>?_,fun u hu=>?_⟩
 .by_cases e:i<M.length
  .rw[ο e]at h1;rw[ο ac]at h2;exact(ha.row (h.row i r u h1 h2) (h.apart u (List.mem_of_getElem? h2))).1
  .rw[τ ac]at h1 h2;have hi:i-M.length=0:=by
    have:=(θ.1 h1).1;simp at this;omega
   rw[hi]at h1;rw[hn,hi]at h2;simp at h1 h2;subst h1 h2;exact(ha.row hl aA).1
 .rcases List.mem_append.1 hu with hu|hu
  .obtain⟨i,hi,e⟩:=χ hu;exact(ha.row (h.row i (M[i]'ac) u (γ _) au) (h.apart u hu)).2
  .simp at hu;subst hu;exact(ha.row hl aA).2
theorem BI.msl{w:World}{base:Nat}{cv:Value}{M:List (List Int)}{vals:List Value}(h:BI w base cv M vals):B6 w cv M:=
 ⟨vals,Sl.own h.cvo,fun i r u h1 h2=>Sl.own (h.row i r u h1 h2)⟩
def CG(pr:Nat->Bool)(n:Nat):Int:=match (ξ n).find? pr with|some i=>i|none=> -1
theorem CO{pr:Nat->Bool}{n i:Nat}(h:i<n)(hb:pr i=true)(ha:∀j,j<i->pr j=false):CG pr n=i:=by
 unfold CG;have:(ξ n).find? pr=some i:=by
  rw[List.find?_range_eq_some];exact⟨hb,κ.2 h,fun j hj=>by rw[ha j hj];rfl⟩
 rw[this]
theorem Cf{pr:Nat->Bool}{n:Nat}(ha:∀j,j<n->pr j=false):CG pr n=-1:=by
 unfold CG;have:(ξ n).find? pr=none:=by
  rw[δa];intro j hj;rw[ha j (κ.1 hj)];simp
 rw[this]
theorem Eh(pr:Nat->Bool)(n:Nat):(ξ n).any pr=decide (0<=CG pr n):=by
 unfold CG
 cases h:(ξ n).find? pr with
 | some i=>
  have:=List.find?_some h;have hm:=List.mem_of_find?_eq_some h;simp only;rw[ϗ.2 ⟨i,hm,this⟩];simp
 | none=>
  rw[δa]at h;simp only;rw[Bool.eq_iff_iff];constructor
  .intro h';obtain⟨i,hi,hb⟩:=ϗ.1 h';exact absurd hb (h i hi)
  .intro h';simp at h'
theorem VG(w:World)(l:List Int)(v:Value)(x:Int)(hl:Ak w v l):
  Calls Tryz.prog 155 #[v,x] w fun r w'=>r= .returned (.int .i64 (CG (fun j=>x==l.getD j 0) l.length))/\w=w':=by
 obtain⟨a,cap,rfl,s1,s2,s3⟩:=hl.open;have S3:=Aa s3;unfold maxLen at s2;obtain⟨pr,aB⟩:∃pr:Nat->Bool,(fun j=>x==l.getD j 0)=pr:=⟨_,rfl⟩;have aC:Hia (∀(j:Nat) (y:Int),l[j]?=some y->pr j=(x==y)):=Aa (fun j y h=>by rw[<-aB];show(x==l.getD j 0)=_;rw[δ,h];rfl);rw[aB];clear hl s3 aB;go_enter Tryz.func155,Tryz.ntmps155
 go_wp2_with fail
 go_loop [5,8] (fun _ i'=>∃i:Nat,i<=l.length/\i'= .int .i64 i/\Hia (∀j,j<i->pr j=false)) (fun _ i'=>l.length-(intOf i').toNat)
 case atStart=>exact⟨0,ac,rfl,Aa (fun j hj=>ac)⟩
 case round=>
  obtain⟨i,hi,rfl,aA⟩:=hrel;by_cases hlt:i<l.length
  .obtain⟨y,hy⟩:∃y,l[i]?=some y:=⟨_,γ hlt⟩;obtain⟨bb,o,rfl,hc⟩:=S3.o ac;have c1:=hc i y hy;have HP:=Aa (aC.o i y hy);clear hc hy
   cases hb:(x==y) with
   | true=>
    have HF:=Aa (CO hlt (HP.o.trans hb) aA.o);exact zda
   | false=>
    have HA:Hia (∀j,j<i+1->pr j=false):=Aa (fun j hj=>by
     by_cases e:j=i
     .subst e;exact HP.o.trans hb
     .exact aA.o j ac)
    go_wp2_with fail
    go_round
    case rel=>exact⟨i+1,ac,by go_num,HA⟩
    case measure=>exact Ωm
  .obtain rfl:i=l.length:=by omega
   have HF:=Aa (Cf aA.o);exact zda
theorem JX(x:Int)(l:List Int):((ξ l.length).any fun j=>x==l.getD j 0)=l.contains x:=by
 rw[Bool.eq_iff_iff];simp only[ϗ,κ,List.contains_iff_mem,beq_iff_eq,δ];constructor
 .rintro⟨j,hj,e⟩;rw[γ hj]at e;rw[e];exact List.getElem_mem hj
 .intro h;obtain⟨j,hj,e⟩:=χ h;exact⟨j,hj,by rw[γ hj,e];rfl⟩
theorem DL(w:World)(l:List Int)(v:Value)(x:Int)(hl:Ak w v l):
  Calls Tryz.prog 132 #[v,x] w fun r w'=>r= .returned (.bool (l.contains x))/\w=w':=by
 have HC:=Aa (VG w l v x hl);have HB:=Aa ((JX x l).symm.trans (Eh _ _));obtain⟨z,hz⟩:∃z,CG (fun j=>x==l.getD j 0) l.length=z:=⟨_,rfl⟩;rw[hz]at HC HB;clear hz hl;go_enter Tryz.func132,Tryz.ntmps132
 go_wp2_with (go_at_call 155;refine HC.o.mono ?_;rintro e w'⟨rfl,rfl⟩)
 go_ret;exact⟨Aq HB.o.symm,rfl⟩
theorem ZY(l:List Int):Aj l=vs l.length (iv fun j=>l.getD j 0):=by
 apply List.ext_getElem?;intro j;by_cases h:j<l.length
 .rw[Dn h];simp[Aj,iv,h,δ]
 .rw[ζn.2 (by rw[Be];omega),ζn.2 (by rw[Bl];omega)]
theorem NF(w:World)(l:List Int)(v:Value)(hl:Ak w v l)(hn:1<=l.length)(hn2:l.length<=1000):
  Calls Tryz.prog 154 #[v] w fun r w'=>∃g cap,r= .returned (.slice (some ⟨g,0,none⟩) l.length cap)/\Bb w' w.heap.size 3 g l.length cap (iv fun j=>l.getD j 0)/\Ex w w':=by
 have HL:=Aa hl;obtain⟨a,cap,rfl,s1,s2,s3⟩:=hl.open;obtain⟨b,o,rfl,_⟩:=s3 ac;have aC:=fun w'=>AS (P:=Tryz.prog) w' 22 3 (some ⟨b,o,none⟩) l.length cap Tryz.underlying22;simp only[Option.isNone]at aC;have aE:∀u∈Aj l,u.oneCell'=true:=by
  exact zdb
 have aH:=Aa aE;have aI:=Aa (ZY l);clear s3 hl aE;go_enter Tryz.func154,Tryz.ntmps154
 go_wp2_with (at_builtin;refine A6 _ rfl _ _ 22 rfl w.heap.size 3 (.int .i64 0) 1 8 Tryz.underlying22 Az rfl ae _ 0 [] rfl (Bm w 3) (.slice (some (b,o)) l.length cap) l.length (Aj l) rfl (HL.o.ex ((Ex.refl w).alloc _)) aH.o ai ac ag ?_)
 intro v1 w1 aA aF aG;have aD:Ex w w1:=Ex.grown ((Ex.refl w).alloc _) (Bm w 3) (ζ _) aF;rw[aI.o]at aA;obtain⟨g,c2,rfl,aB⟩:=J7 aA hn;have HO:=Aa aB;have HX:=Aa aD;clear aB aA aF aG aD aC;go_wp2_with fail
 go_ret;exact⟨g,c2,rfl,HO.o,HX.o⟩
theorem zaS{P:Prop}(h:P:=by
 rw[List.getElem?_eq_none_iff.2 (by omega),List.getElem?_eq_none_iff.2 (by omega)]):P:=h
theorem zcu{P:Prop}(h:P:=by
 apply List.ext_getElem?;intro j;by_cases hj:j<l.length
 .exact h j hj
 .exact zaS):P:=h
theorem Nn{l k:List Int}(hl:l.length=k.length)(h:∀j,j<l.length->l[j]?=k[j]?):l=k:=by
 exact zcu
theorem zae{P:Prop}(h:P:=by
 obtain⟨x,hx⟩:∃x,l[i]?=some x:=⟨_,List.getElem?_eq_getElem hlt⟩;have aE:i<k.length:=by have:=aD.o;omega
 obtain⟨y,hy⟩:∃y,k[i]?=some y:=⟨_,List.getElem?_eq_getElem aE⟩;obtain⟨b,o,rfl,hc⟩:=S3.o (by omega);obtain⟨b2,o2,rfl,aB⟩:=T3.o (by omega);have c1:=((Ex.refl w).drewN n).cell (hc i x hx);have c2:=((Ex.refl w).drewN n).cell (aB i y hy);have i1:(0:Int)<=(i:Int):=by omega
 have i2:(i:Int)<(l.length:Int):=by omega
 have i3:(i:Int)<(k.length:Int):=by omega
 obtain⟨W,hW⟩:=nA (w.drewN n);rw[hW]at c1 c2 ⊢;have aC:=Aa hW;clear hW;by_cases hxy:x=y
 .have HA:Hia (∀j,j<i+1->l[j]?=k[j]?):=Aa (fun j hj=>by
   by_cases e:j=i
   .subst e;rw[hx,hy,hxy]
   .exact aA.o j (by omega))
  have aF:(x !=y)=false:=by simpa using hxy
  clear hc aB hx hy hxy;go_wp2_with fail
  go_quiet (fail)
  go_wp2_with fail
  go_roundw
  case rel=>exact⟨i+1,_,by omega,by go_num,by rw[<-aC.o,World.drewN_drewN],HA⟩
  case measure=>exact Ωm
 .have HN:Hia (¬l=k):=Aa (fun e=>hxy (by rw[e,hy]at hx;injection hx with hx;exact hx.symm));have aF:(x !=y)=true:=by simpa using hxy
  clear hc aB hx hy hxy;go_wp2_with fail
  go_quiet (fail)
  go_wp2_with fail
  go_ret;exact⟨Aq (decide_eq_false HN.o).symm,_,by rw[<-aC.o,World.drewN_drewN]⟩):P:=h
theorem zcU{P:Prop}(h:P:=by
 go_wp2_with fail
 go_ret;exact⟨Aq (decide_eq_true HE.o).symm,n,rfl⟩):P:=h
theorem zaC{P:Prop}(h:P:=by
 obtain rfl:i=l.length:=by omega
 have HE:=Aa (Nn aD.o aA.o);exact zcU):P:=h
theorem zcq{P:Prop}(h:P:=by
 obtain⟨i,n,hi,rfl,rfl,aA⟩:=hrel;by_cases hlt:i<l.length
 .exact zae
 .exact zaC):P:=h
theorem zcP{P:Prop}(h:P:=by
 go_wp2_with fail
 go_ret;exact⟨Aq (decide_eq_false HN.o).symm,0,rfl⟩):P:=h
theorem DJ(w:World)(l k:List Int)(v u:Value)(hl:Ak w v l)(hk:Ak w u k):
  Calls Tryz.prog 19 #[v,u] w fun r w'=>r= .returned (.bool (decide (l=k)))/\∃n,w'=w.drewN n:=by
 obtain⟨a,cap,rfl,s1,s2,s3⟩:=hl.open;obtain⟨c,cc,rfl,t1,t2,t3⟩:=hk.open;have S3:=Aa s3;have T3:=Aa t3;unfold maxLen at s2 t2;clear hl hk s3 t3;by_cases hlk:l.length=k.length
 .have hb:((l.length:Int) !=(k.length:Int))=false:=by simp;omega
  have aD:=Aa hlk;clear hlk;go_enter Tryz.func19,Tryz.ntmps19
  go_wp2_with fail
  go_loopw [5] (fun i' wr=>∃i n:Nat,i<=l.length/\i'= .int .i64 i/\wr=w.drewN n/\Hia (∀j,j<i->l[j]?=k[j]?)) (fun i' _=>l.length-(intOf i').toNat)
  case atStart=>exact⟨0,0,ac,rfl,rfl,Aa (fun j hj=>ac)⟩
  case round=>
   exact zcq
 .have hb:((l.length:Int) !=(k.length:Int))=true:=by simp;omega
  have HN:Hia (¬l=k):=Aa (fun e=>hlk cw);clear hlk;go_enter Tryz.func19,Tryz.ntmps19
  exact zcP
theorem Gm{l k:List (List Int)}(hl:l.length=k.length)(h:∀j,j<l.length->l[j]?=k[j]?):l=k:=by
 exact zcu
theorem zaD{P:Prop}(h:P:=by
 obtain rfl:i=l.length:=by omega
 have HE:=Aa (Gm aI.o aC.o);exact zcU):P:=h
theorem zbQ{P:Prop}(h:P:=by
 go_roundw
 case rel=>exact⟨i+1,_,by omega,by go_num,by rw[<-aH.o,World.drewN_drewN],HA⟩
 case measure=>exact Ωm):P:=h
theorem zco{P:Prop}(h:P:=by
 go_ret;exact⟨Aq (decide_eq_false HN.o).symm,_,by rw[<-aH.o,World.drewN_drewN]⟩):P:=h
theorem DI(w:World)(l k:List (List Int))(v u:Value)(hl:B6 w v l)(hk:B6 w u k):
  Calls Tryz.prog 27 #[v,u] w fun r w'=>r= .returned (.bool (decide (l=k)))/\∃n,w'=w.drewN n:=by
 obtain⟨a,cap,rfl,s1,s2,s3⟩:=hl.open;obtain⟨c,cc,rfl,t1,t2,t3⟩:=hk.open;have S3:=Aa s3;have T3:=Aa t3;unfold maxLen at s2 t2;clear hl hk s3 t3;by_cases hlk:l.length=k.length
 .have hb:((l.length:Int) !=(k.length:Int))=false:=by simp;omega
  have aI:=Aa hlk;clear hlk;go_enter Tryz.func27,Tryz.ntmps27
  go_wp2_with fail
  go_loopw [5] (fun i' wr=>∃i n:Nat,i<=l.length/\i'= .int .i64 i/\wr=w.drewN n/\Hia (∀j,j<i->l[j]?=k[j]?)) (fun i' _=>l.length-(intOf i').toNat)
  case atStart=>exact⟨0,0,ac,rfl,rfl,Aa (fun j hj=>ac)⟩
  case round=>
   obtain⟨i,n,hi,rfl,rfl,aC⟩:=hrel;by_cases hlt:i<l.length
   .obtain⟨x,hx⟩:∃x,l[i]?=some x:=⟨_,γ hlt⟩;have aJ:i<k.length:=by have:=aI.o;omega
    obtain⟨y,hy⟩:∃y,k[i]?=some y:=⟨_,γ aJ⟩;obtain⟨b,o,rfl,hc⟩:=S3.o ac;obtain⟨b2,o2,rfl,aG⟩:=T3.o ac;obtain⟨u1,e1,aF⟩:=hc i x hx;obtain⟨u2,e2,aE⟩:=aG i y hy;have c1:=((Ex.refl w).drewN n).cell e1;have c2:=((Ex.refl w).drewN n).cell e2;have aB:=aF.ex ((Ex.refl w).drewN n);have aA:=aE.ex ((Ex.refl w).drewN n);have i1:(0:Int)<=(i:Int):=bz;have i2:(i:Int)<(l.length:Int):=ac;have i3:(i:Int)<(k.length:Int):=ac;obtain⟨W,hW⟩:=nA (w.drewN n);rw[hW]at c1 c2 aB aA ⊢;have aH:=Aa hW;have aD:=Aa (fun n'=>DJ (W.drewN n') x y u1 u2 (aB.ex ((Ex.refl W).drewN n')) (aA.ex ((Ex.refl W).drewN n')));obtain⟨ua,uc,rfl,_,_,_⟩:=aB.open;obtain⟨va,vc,rfl,_,_,_⟩:=aA.open;by_cases hxy:x=y
    .have HA:Hia (∀j,j<i+1->l[j]?=k[j]?):=Aa (fun j hj=>by
      by_cases e:j=i
      .subst e;rw[hx,hy,hxy]
      .exact aC.o j ac)
     rw[decide_eq_true hxy]at aD;clear hc aG hx hy hxy hW aF aE e1 e2 aB aA;go_wp2_with fail
     go_quiet ((go_at_call 19;exact KR (aD.o _)))
     go_wp2_with fail
     exact zbQ
    .have HN:Hia (¬l=k):=Aa (fun e=>hxy (by rw[e,hy]at hx;injection hx with hx;exact hx.symm));rw[decide_eq_false hxy]at aD;clear hc aG hx hy hxy hW aF aE e1 e2 aB aA;go_wp2_with fail
     go_quiet ((go_at_call 19;exact KR (aD.o _)))
     go_wp2_with fail
     exact zco
   .exact zaD
 .have hb:((l.length:Int) !=(k.length:Int))=true:=by simp;omega
  have HN:Hia (¬l=k):=Aa (fun e=>hlk cw);clear hlk;go_enter Tryz.func27,Tryz.ntmps27
  exact zcP
end Go.Proofs.YtehieobniamagaaGreat
