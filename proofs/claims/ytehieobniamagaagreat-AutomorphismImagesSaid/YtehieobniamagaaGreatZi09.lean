/- Plain: the canonical rows are determined by the words that are orthogonal to them; the space that rows generate. -/
import Derived.RegionTactic
import Derived.BigRegion
import Derived.Test.YtehieobniamagaaGreatZi08
namespace Go.Proofs.YtehieobniamagaaGreat
open List renaming mem_cons_self→Θ,pairwise_cons→ηg,mem_cons→ϒ,mem_cons_of_mem→ω,getElem?_eq_getElem→γ,getElem_of_mem→χ,mem_of_getElem?→ι
open Nat renaming pow_pos→ϕ,le_refl→ζ,lt_of_lt_of_le→Δ
open Go.Value renaming int→γc
open Go.RowKit
set_option linter.all false
set_option maxRecDepth 100000
set_option maxHeartbeats 4000000
theorem Vi{p m:Nat}(hp:1<=p):CL p m 0=0:=by
 have h:=CW (p:=p) (m:=m) hp 0
 rwa[DQ hp (Dk hp 0)]at h
theorem Ov{p m a b:Nat}(hp:1<=p)(ha:a<p^m)(hb:b<p^m)(h:AK p m a (CL p m b)=0):a=b:=by
 have h1:AK p m (AK p m a (CL p m b)) b=a:=by
  rw[BK hp,DV (CL p m b),CW hp,Ce hp ha]
 rw[h,DQ hp hb]at h1;exact h1.symm
theorem ZU{q:Nat}{x y:Int}(hx:0<=x/\x<q)(hy:0<=y/\y<q)(h:Av q x=Av q y):x=y:=by
 have h1:=Gu hx.1 hx.2;have h2:=Gu hy.1 hy.2;rw[h]at h1;omega
theorem FO{p m:Nat}(hp:2<=p)(hm:1<=m):Av (p^m) 1=1:=AE (q:=p^m) (x:=1) (BC hp hm)
theorem Up:∀ {l k:List Nat},l.Pairwise (·< ·)->k.Pairwise (·< ·)->(∀x,x∈l↔x∈k)->l=k
 | [], [],_,_,_=>rfl
 | [],y :: k,_,_,h=>by have:=(h y).2 (Θ ..);cases this
 | x :: l, [],_,_,h=>by have:=(h x).1 (Θ ..);cases this
 | x :: l,y :: k,hl,hk,h=>by
  obtain⟨l1,l2⟩:=ηg.1 hl;obtain⟨k1,k2⟩:=ηg.1 hk;have e:x=y:=by
   rcases ϒ.1 ((h x).1 (Θ ..)) with e|e
   .exact e
   .rcases ϒ.1 ((h y).2 (Θ ..)) with e2|e2
    .exact e2.symm
    .have h1:=k1 x e;have h2:=l1 y e2;omega
  subst e;rw[Up l2 k2 fun z=>?_];constructor
  .intro hz;rcases ϒ.1 ((h z).1 (ω _ hz)) with e|e
   .have:=l1 z hz;omega
   .exact e
  .intro hz;rcases ϒ.1 ((h z).2 (ω _ hz)) with e|e
   .have:=k1 z hz;omega
   .exact e
section
variable {p m:Nat} {ml:List Int} {N R:Nat} {a:Nat->Nat->Int} {piv:List Nat} {c0 c:Nat} {x:Nat->Int}
theorem Kv.ex(hP:PV p m R N a piv c0)(aA:∀i:Nat,piv[i]?≠some c):∀k,k<=piv.length->∃x,Kv p m a piv c k x
 | 0,_=>⟨_,Kv.zero⟩
 | k+1,hk=>by
  obtain⟨x,hx⟩:=Kv.ex hP aA k ac;have hq:piv[k]?=some (piv[k]'ac):=γ _;exact⟨_,hx.succ hP hq fun e=>aA k (by rw[hq,e])⟩
theorem Jo(hp:2<=p){f:Nat->Int}{k:Nat}(hk:k<N)(h:∀j,j<N->j≠k->f j≠0->x j=0):dt p m ml N f x=Am p m (lw ml) (Av (p^m) (f k)) (Av (p^m) (x k)):=by
 have aA:(il N f).length=N:=AM _ _;have hg:∀j,j<N->(il N f).getD j 0=f j:=fun j hj=>by
  exact zdk
 have e1:Cc p m ml (il N f) (il N x) 0=AK p m (Cc p m ml (il N f) (il N fun _=>(0:Int)) 0) (Am p m (lw ml) (Av (p^m) ((il N f).getD k 0)) (Av (p^m) (x k))):=
  LC hp aA hk rfl fun j hj aB hr=>h j hj aB (by rwa[hg j hj]at hr)
 have e0:Cc p m ml (il N f) (il N fun _=>(0:Int)) 0=0:=by
  have:=GX (p:=p) (m:=m) (ml:=ml) (N:=N) hp (f:=fun _=>0) (x:=f) (fun j _=>rfl);rw[Kj]at this;exact this
 show Cc p m ml (il N f) (il N x) 0=_
 rw[e1,e0,hg k hk,DQ ac (A7 ac _ _)]
theorem Kv.dt_piv(hp:2<=p)(hm:1<=m)(hc:c<N)(h:Kv p m a piv c piv.length x){f:Nat->Int}{i q:Nat}(hq:piv[i]?=some q)(aC:q<N)(aD:q≠c)(aI:f q=1)(hz:∀k r:Nat,piv[k]?=some r->k≠i->f r=0):
  dt p m ml N f x=AK p m (Av (p^m) (f c)) (CL p m (Av (p^m) (a i c))):=by
 have aB:(il N f).length=N:=AM _ _;have aE:0<p^m:=ϕ ac;have hg:∀j,j<N->(il N f).getD j 0=f j:=fun j hj=>by
  exact zdk
 have aH:i<piv.length:=(List.getElem?_eq_some_iff.1 hq).1;have e1:dt p m ml N f (Ay (fun _=>(0:Int)) c 1)=Av (p^m) (f c):=by
  rw[Jo hp hc fun j hj aG _=>(show Ay (fun _=>(0:Int)) c 1 j=0 from Ac _ _ aG),Ab,FO hp hm,BD hp hm (Cb aE _)]
 have e2:Cc p m ml (il N f) (il N x) 0=AK p m (Cc p m ml (il N f) (il N (Ay (fun _=>(0:Int)) c 1)) 0) (Am p m (lw ml) (Av (p^m) ((il N f).getD q 0)) (Av (p^m) (x q))):=
  LC hp aB aC (Ac _ _ aD) fun j hj aF hr=>by
   rw[hg j hj]at hr;by_cases e:j=c
   .rw[e,h.c1,Ab]
   .rw[Ac _ _ e];refine h.z j e fun k hk aA=>?_;by_cases ek:k=i
    .subst ek;rw[hq]at aA;injection aA with aA;exact aF aA.symm
    .exact hr (hz k j aA ek)
 show Cc p m ml (il N f) (il N x) 0=_
 rw[e2];show AK p m (dt p m ml N f (Ay (fun _=>(0:Int)) c 1)) _=_
 rw[e1,hg q aC,aI,h.pv i q aH hq,FO hp hm,AE (Dk ac _),Cr hp hm (Dk ac _)]
def RR(p m N R:Nat)(a:Nat->Nat->Int)(piv:List Nat):Prop:=∃c,c<=N/\PV p m R N a piv c/\(piv.length=R∨c=N)
theorem RR.sol(hp:2<=p)(hm:1<=m)(h:RR p m N R a piv)(hc:c<N)(aA:∀i:Nat,piv[i]?≠some c)(hx:Kv p m a piv c piv.length x):B9 p m ml N R a x:=by
 obtain⟨c1,h1,h2,h3⟩:=h;exact hx.sol hp hm h2 h3 h1 hc aA
theorem RR.piv_iff(hp:2<=p)(hm:1<=m)(h:RR p m N R a piv)(hc:c<N):c∈piv↔¬∃x,B9 p m ml N R a x/\Av (p^m) (x c)≠0/\∀j,c<j->x j=0:=by
 have h0:=h;obtain⟨c1,h1,hP,h3⟩:=h;constructor
 .rintro aA⟨x,hS,hx,hz⟩;obtain⟨i,hi,e⟩:=χ aA;have hq:piv[i]?=some c:=by rw[γ hi,e]
  have:=hS i (by have:=hP.le;omega);rw[Jo hp hc fun j hj aD hf=>by
   rcases Nat.lt_or_gt_of_ne aD with e1|e1
   .exact absurd (hP.lead i c j hq e1) hf
   .exact hz j e1,hP.one i c hq,FO hp hm,Cr hp hm (Cb (ϕ ac) _)]at this
  exact hx this
 .intro hn;by_cases aA:c∈piv
  .exact aA
  .exfalso;have aC:∀i:Nat,piv[i]?≠some c:=fun i hi=>aA (ι hi);obtain⟨x,hx⟩:=Kv.ex hP aC piv.length (ζ _);refine hn ⟨x,h0.sol hp hm hc aC hx,by rw[hx.c1,FO hp hm];decide,fun j hj=>?_⟩;by_cases hj2:∃i,i<piv.length/\piv[i]?=some j
   .obtain⟨i,hi,aB⟩:=hj2;rw[hx.pv i j hi aB,hP.lead i j c aB hj,CN,Vi ac];rfl
   .exact hx.z j ac fun i hi aB=>hj2 ⟨i,hi,aB⟩
theorem RR.asc(h:RR p m N R a piv):piv.Pairwise (·< ·)/\∀q∈piv,q<N:=by
 obtain⟨c1,h1,hP,h3⟩:=h;refine⟨List.pairwise_iff_getElem.2 fun i j hi hj aA=>hP.asc i j _ _ aA (γ hi) (γ hj),fun q hq=>?_⟩;obtain⟨i,hi,e⟩:=χ hq;have:=hP.lt i q au;omega
theorem Zl(hp:2<=p)(hm:1<=m){R':Nat}{a':Nat->Nat->Int}{piv':List Nat}(h:RR p m N R a piv)(h':RR p m N R' a' piv')(hS:∀x,B9 p m ml N R a x↔B9 p m ml N R' a' x):
  piv=piv'/\∀i,i<piv.length->∀j,j<N->a i j=a' i j:=by
 have aF:piv=piv':=Up h.asc.1 h'.asc.1 fun q=>by
  constructor
  .intro hq;have aA:=h.asc.2 q hq;refine(h'.piv_iff (ml:=ml) hp hm aA).2 ?_;rintro⟨x,h1,h2⟩;exact(h.piv_iff (ml:=ml) hp hm aA).1 hq ⟨x,(hS x).2 h1,h2⟩
  .intro hq;have aA:=h'.asc.2 q hq;refine(h.piv_iff (ml:=ml) hp hm aA).2 ?_;rintro⟨x,h1,h2⟩;exact(h'.piv_iff (ml:=ml) hp hm aA).1 hq ⟨x,(hS x).1 h1,h2⟩
 subst aF;refine⟨rfl,fun i hi j hj=>?_⟩;have hq:piv[i]?=some piv[i]:=γ hi;obtain⟨q,aE⟩:=nA (piv[i]);rw[aE]at hq;have aA:=h.asc.2 q (ι hq);have aH:=h';obtain⟨c1,h1,hP,h3⟩:=h;obtain⟨c1',h1',aB,h3'⟩:=h';by_cases hjp:∃k:Nat,piv[k]?=some j
 .obtain⟨k,hk⟩:=hjp;by_cases e:k=i
  .subst e;rw[hP.one k j hk,aB.one k j hk]
  .rw[hP.zer k j i hk (by have:=hP.le;omega) (fun e2=>e e2.symm),aB.zer k j i hk (by have:=aB.le;omega) (fun e2=>e e2.symm)]
 .have aC:∀k:Nat,piv[k]?≠some j:=fun k hk=>hjp ⟨k,hk⟩;obtain⟨x,hx⟩:=Kv.ex aB aC piv.length (ζ _);have hs:=(hS x).2 (aH.sol hp hm hj aC hx) i (by have:=hP.le;omega);rw[hx.dt_piv hp hm hj hq aA (fun e=>aC i (by rw[<-e];exact hq)) (hP.one i q hq) fun k r hk aG=>hP.zer k r i hk (by have:=hP.le;omega) (fun e=>aG e.symm)]at hs;have aD:0<p^m:=ϕ ac;exact ZU (hP.rng i (by have:=hP.le;omega) j hj) (aB.rng i (by have:=aB.le;omega) j hj) (Ov ac (Cb aD _) (Cb aD _) hs)
def Cl(p m:Nat)(ml:List Int)(N R:Nat)(a:Nat->Nat->Int)(v:Nat->Int):Prop:=∀x,B9 p m ml N R a x->dt p m ml N v x=0
theorem Cl.sol_iff{R':Nat}{a':Nat->Nat->Int}:(∀i,i<R'->Cl p m ml N R a (a' i))↔∀x,B9 p m ml N R a x->B9 p m ml N R' a' x:=
 ⟨fun h x hx i hi=>h i hi x hx,fun h i hi x hx=>h x hx i hi⟩
structure VR(N:Nat)(a:Nat->Nat->Int)(pl:Nat->Nat)(n:Nat):Prop where
 lt:∀i,i<n->pl i<N
 one:∀i,i<n->a i (pl i)=1
 zer:∀i j,j<i->i<n->a i (pl j)=0
theorem VR.mono{pl:Nat->Nat}{n k:Nat}(h:VR N a pl n)(hk:k<=n):VR N a pl k:=⟨fun i hi=>h.lt i ac,fun i hi=>h.one i ac,fun i j hj hi=>h.zer i j hj ac⟩
theorem VR.solve(hp:2<=p)(hm:1<=m){pl:Nat->Nat}:∀n,VR N a pl n->∀y:Nat->Int,∃x,(∀j,(∀i,i<n->pl i≠j)->x j=y j)/\B9 p m ml N n a x
 | 0,_,y=>⟨y,fun _ _=>rfl,fun i hi=>by omega⟩
 | n+1,h,y=>by
  have hq0:0<p^m:=ϕ ac;obtain⟨s,hs⟩:=nA (dt p m ml N (a n) (Ay y (pl n) 0));have hsl:s<p^m:=by rw[<-hs];exact QL hp _ _
  obtain⟨x,aA,aE⟩:=VR.solve hp hm n (h.mono ac) (Ay y (pl n) ((CL p m s:Nat):Int));refine⟨x,fun j hj=>?_,fun i hi=>?_⟩
  .rw[aA j fun i hi=>hj i ac,Ac _ _ (fun e=>hj n ac e.symm)]
  .by_cases e:i=n
   .subst e;have aB:(il N (a i)).length=N:=AM _ _;have hg:∀j,j<N->(il N (a i)).getD j 0=a i j:=fun j hj=>by
     exact zdk
    have aC:=h.lt i ac;have e1:Cc p m ml (il N (a i)) (il N x) 0=AK p m (Cc p m ml (il N (a i)) (il N (Ay y (pl i) 0)) 0) (Am p m (lw ml) (Av (p^m) ((il N (a i)).getD (pl i) 0)) (Av (p^m) (x (pl i)))):=
     LC hp aB aC (Ab _ _ _) fun j hj aD hr=>by
      rw[hg j hj]at hr;rw[aA j fun k hk e=>hr (by rw[<-e];exact h.zer i k hk ac),Ac _ _ aD,Ac _ _ aD]
    have e3:x (pl i)=((CL p m s:Nat):Int):=by
     rw[aA (pl i) fun k hk e=>by
      have h1:=h.zer i k hk ac;rw[e,h.one i ac]at h1;exact absurd h1 ae,Ab]
    show Cc p m ml (il N (a i)) (il N x) 0=0
    rw[e1,hg _ aC,h.one i ac,e3,FO hp hm,AE (Dk ac _),Cr hp hm (Dk ac _)];show AK p m (dt p m ml N (a i) (Ay y (pl i) 0)) _=0
    rw[hs,CW ac]
   .exact aE i ac
theorem VR.zero(hp:2<=p)(hm:1<=m){pl:Nat->Nat}{n:Nat}(h:VR N a pl n){r:Nat->Int}(hz:∀i,i<n->r (pl i)=0)(hc:Cl p m ml N n a r){k:Nat}(hk:k<N):Av (p^m) (r k)=0:=by
 by_cases hkp:∃i,i<n/\pl i=k
 .obtain⟨i,hi,rfl⟩:=hkp;rw[hz i hi,CN]
 .obtain⟨x,h1,h2⟩:=VR.solve (ml:=ml) hp hm n h (Ay (fun _=>0) k 1);have h3:=hc x h2;rw[Jo hp hk fun j hj aA hr=>by
   rw[h1 j fun i hi e=>hr (by rw[<-e];exact hz i hi),Ac _ _ aA],h1 k fun i hi e=>hkp ⟨i,hi,e⟩,Ab,FO hp hm,BD hp hm (Cb (ϕ ac) _)]at h3
  exact h3
end
theorem Ln{a b c:World}{row:Option Nat}(h:a.grownBy b row)(k:b.grownBy c row):a.grownBy c row:=
 ⟨k.os.trans h.os,k.tape.trans h.tape,k.output.trans h.output,Nat.le_trans h.size k.size,fun i hi aA=>(k.block i (Δ hi h.size) aA).trans (h.block i hi aA)⟩
theorem grow_ex{a b:World}(row:Option Nat)(h:Ex a b):a.grownBy b row:=⟨h.os,h.tape,h.output,h.size,fun i hi _=>h.block i hi⟩
theorem Xz(w:World)(g j:Nat)(u:Value):w.grownBy (w.setCell (g,j) u) (some g):=by
 have h:Below g w (w.setCell (g,j) u):=Below.setCell (Below.refl g w) (ζ _) u;refine⟨h.os,h.tape,h.output,h.size,fun k hk aA=>?_⟩;have aB:k≠g:=fun e=>aA cw;by_cases hlt:k<g
 .exact h.block k hlt
 .exact Below.heap_setCell w ⟨g,j,none⟩ u k aB
theorem zbc{P:Prop}(h:P:=by
 rw[if_pos h,if_pos (by omega)]):P:=h
theorem WY{p m:Nat}{ml:List Int}{b x0:Nat}(w0 w:World)(hg:Bh w0 b p m ml x0)(hx:Ex w0 w)(N vb cap base:Nat)(f u:Nat->Int)(a:Int)(uv:Value)(hb:w0.heap.size<=base)(hv:Bb w base 3 vb N cap (iv f))(hu:Ak w uv (il N u))(aL:uv.ownBlock≠some vb)(hN:N<=1000):
  Calls Tryz.prog 254 #[(b,0),.slice (some (vb,0)) N cap,a,uv] w fun r w'=>(∃t,r= .returned t)/\Bb w' base 3 vb N cap (iv (Cn p m ml f (Av (p^m) a) u))/\w.grownBy w' (some vb):=by
 obtain⟨ua,uc,rfl,u1,u2,u3⟩:=hu.open;rw[AM]at u1 u3 ⊢;unfold maxLen at u2;obtain⟨c1,c2⟩:=hv.caps;unfold maxLen at c2;obtain⟨U3,aQ,HX,aI,HV,HO⟩:=Ty u3 aL hx hg hv (show Bb w base 3 vb N cap (iv fun j=>if j<0 then Cn p m ml f (Av (p^m) a) u j else f j) from hv.icongr fun j _=>ag);clear u3 hu aL hv hx hg;go_enter Tryz.func254,Tryz.ntmps254
 go_wp2_with fail
 go_loopw [12] (fun k' wr=>∃k:Nat,k<=N/\k'= .int .i64 k/\Hia (Bb wr base 3 vb N cap (iv fun j=>if j<k then Cn p m ml f (Av (p^m) a) u j else f j))/\Hia (w.grownBy wr (some vb))) (fun k' _=>N-(intOf k').toNat)
 case atStart=>exact⟨0,ac,rfl,HO,Aa (World.grownBy.refl _ _)⟩
 case round=>
  clear HO;obtain⟨k,hk,rfl,aA,aD⟩:=hrel;by_cases hkl:k<N
  .obtain⟨ub,uo,rfl,aK⟩:=U3.o ac;have aM:ub≠vb:=fun e=>aQ.o (by rw[e];rfl);have d1:=aD.o.cell (aK k (u k) (AT hkl u)) (by intro e;injection e with e;exact aM e);have i1:(0:Int)<=(k:Int):=by omega
   have i2:(k:Int)<(N:Int):=ac;have aJ:=Aa (Ex.grown HX.o HV.o hb aD.o);clear aK aM;by_cases h0:u k=0
   .have aP:(u k !=0)=false:=by simp[h0]
    have aF:Hia (Bb wr base 3 vb N cap (iv fun j=>if j<k+1 then Cn p m ml f (Av (p^m) a) u j else f j)):=Aa (aA.o.icongr fun j hj=>by
     by_cases e:j=k
     .subst e;rw[if_neg (show ¬j<j by omega),if_pos (show j<j+1 by omega)];unfold Cn;rw[if_pos h0]
     .by_cases h:j<k
      .rw[if_pos h,if_pos (show j<k+1 by omega)]
      .rw[if_neg h,if_neg (show ¬j<k+1 by omega)])
    clear aA h0;go_wp2_with fail
    go_roundw
    case rel=>exact⟨k+1,ac,by go_num,aF,aD⟩
    case measure=>exact Ωm
   .have aP:(u k !=0)=true:=by simpa using h0
    have aO:wr.cell? (vb,k)=some (.int .i64 (f k)):=by
     rw[aA.o.cell hkl];show some (γc .i64 (if k<k then _ else f k))=_;rw[if_neg ac]
    have aN:=aA.o.frz k;obtain⟨K1,aG⟩:∃K,Am p m (lw ml) (Av (p^m) a) (Av (p^m) (u k))=K:=⟨_,rfl⟩;have aE:K1<p^m:=by rw[<-aG];exact A7 (by have:=aI.o.sh.p2;omega) _ _
    have aB:=Aa (fun w' (h:Ex w0 w')=>EZ w' (aI.o.ex h) a (u k));rw[aG]at aB;obtain⟨K2,aH⟩:∃K,AK p m (Av (p^m) (f k)) (Av (p^m) (K1:Nat))=K:=⟨_,rfl⟩;have aC:=Aa (fun w' (h:Ex w0 w')=>Km w' (aI.o.ex h) (f k) (K1:Nat));rw[aH]at aC;have aS:Hia (Cn p m ml f (Av (p^m) a) u k=(K2:Nat)):=Aa (by
     unfold Cn;rw[if_neg h0,aG,<-aH,AE aE])
    clear aG aH aE h0;go_upto_region 4 with fail
    have E1:Ex wr wr.drew:=(Ex.refl wr).drew;have G0:Ex w0 wr.drew:=aJ.o.trans E1
    go_region_law
     ((first
            | (go_simp;go_at_call 106;(with_reducible refine(aB.o _ (aJ.o.drewN _)).mono ?_);rintro e wx1⟨rfl,n1,rfl⟩)
            | (go_simp;go_at_call 106;(with_reducible refine(aB.o _ G0).mono ?_);rintro e wx1⟨rfl,n1,rfl⟩)
            | (go_simp;go_at_call 163;(with_reducible refine(aC.o _ (aJ.o.drewN _)).mono ?_);rintro e wx2⟨rfl,n2,rfl⟩)))
    all_goals
     have aF:=Aa (fun n=>((aA.o.drewN n).set k (.int .i64 (K2:Nat))));have aR:=Aa (fun n=>Ln aD.o (Ln (grow_ex (some vb) ((Ex.refl wr).drewN n)) (Xz (wr.drewN n) vb k (.int .i64 (K2:Nat)))));clear aA aD aB aC E1 G0 aO aN;go_wp2_with fail
     go_roundw
     case rel=>exact⟨k+1,ac,by go_num,Aa ((aF.o _).congr fun j hj=>by
      by_cases e:j=k
      .subst e;rw[Ab];show _=γc .i64 (if j<j+1 then Cn p m ml f (Av (p^m) a) u j else f j);rw[if_pos ac,aS.o]
      .rw[Ac _ _ e];show γc .i64 (if j<k then Cn p m ml f (Av (p^m) a) u j else f j)=γc .i64 (if j<k+1 then Cn p m ml f (Av (p^m) a) u j else f j)
       by_cases h:j<k
       .exact zbc
       .rw[if_neg h,if_neg ac]),Aa (aR.o _)⟩
     case measure=>exact Ωm
  .obtain rfl:N=k:=by omega
   have aF:Hia (Bb wr base 3 vb N cap (iv (Cn p m ml f (Av (p^m) a) u))):=Aa (aA.o.icongr fun j hj=>by rw[if_pos hj]);clear aA;go_wp2_with fail
   go_end0
   exact⟨⟨_,rfl⟩,aF.o,aD.o⟩
theorem Nz{p m:Nat}{ml:List Int}{b x0:Nat}(w:World)(hg:Bh w b p m ml x0)(N:Nat)(u:Nat->Int)(a:Int)(uv:Value)(hu:Ak w uv (il N u))(hN:N<=1000):
  Calls Tryz.prog 252 #[(b,0),a,uv] w fun r w'=>∃g,r= .returned (.slice (some ⟨g,0,none⟩) N N)/\AJ w' w.heap.size 3 g N (iv (BT p m ml (Av (p^m) a) u))/\Ex w w':=by
 obtain⟨ua,uc,rfl,u1,u2,u3⟩:=hu.open;rw[AM]at u1 u3 ⊢;unfold maxLen at u2;have U3:=Aa u3;have aM:=Aa hg;clear u3 hu hg;go_enter Tryz.func252,Tryz.ntmps252
 go_wp2_with (at_make;refine Ar _ rfl _ _ 22 rfl 3 (.int .i64 0) 8 Tryz.underlying22 Az rfl _ N rfl rfl rfl ac ai ?_)
 intro w3 aA aF;obtain⟨g,aC⟩:=nA w.heap.size;have aH:=Aa aC;rw[aC]at aA ⊢
 try simp only[aC]
 have HO:Hia (AJ w3 g 3 g N (iv fun j=>if j<0 then BT p m ml (Av (p^m) a) u j else 0)):=Aa (aA.icongr fun j _=>ag);have HX:=Aa aF;clear aA aF aC;go_wp2_with fail
 go_loopw [15] (fun k' wr=>∃k:Nat,k<=N/\k'= .int .i64 k/\Hia (AJ wr g 3 g N (iv fun j=>if j<k then BT p m ml (Av (p^m) a) u j else 0))/\Hia (Ex w wr)) (fun k' _=>N-(intOf k').toNat)
 case atStart=>exact⟨0,ac,rfl,HO,HX⟩
 case round=>
  clear HO HX;obtain⟨k,hk,rfl,aA,hx⟩:=hrel;by_cases hkl:k<N
  .obtain⟨ub,uo,rfl,aG⟩:=U3.o ac;have d1:=hx.o.cell (aG k (u k) (AT hkl u));have i1:(0:Int)<=(k:Int):=by omega
   have i2:(k:Int)<(N:Int):=ac;have aJ:=aA.o.cell hkl;have aI:=aA.o.frz k;obtain⟨K1,aD⟩:∃K,Am p m (lw ml) (Av (p^m) a) (Av (p^m) (u k))=K:=⟨_,rfl⟩;have aB:=Aa (EZ wr (aM.o.ex hx.o) a (u k));rw[aD]at aB;have aL:Hia (BT p m ml (Av (p^m) a) u k=(K1:Nat)):=Aa (by unfold BT;rw[aD]);clear aD aG;go_wp2_with (go_at_call 106;refine aB.o.mono ?_;rintro e w4⟨rfl,n,rfl⟩)
   have aE:=Aa (fun n=>(aA.o.drewN n).set k (.int .i64 (K1:Nat)));have aK:=Aa (fun n=>(aA.o.drewN n).exSet (a:=w) (by have:=aH.o;omega) (hx.o.drewN n) k (.int .i64 (K1:Nat)));clear aA hx aB aJ aI d1;go_roundw
   case rel=>exact⟨k+1,ac,by go_num,Aa ((aE.o _).congr fun j hj=>by
    by_cases e:j=k
    .subst e;rw[Ab];show _=γc .i64 (if j<j+1 then BT p m ml (Av (p^m) a) u j else 0);rw[if_pos ac,aL.o]
    .rw[Ac _ _ e];show γc .i64 (if j<k then BT p m ml (Av (p^m) a) u j else 0)=γc .i64 (if j<k+1 then BT p m ml (Av (p^m) a) u j else 0)
     by_cases h:j<k
     .exact zbc
     .rw[if_neg h,if_neg ac]),Aa (aK.o _)⟩
   case measure=>exact Ωm
  .obtain rfl:N=k:=by omega
   have aE:Hia (AJ wr g 3 g N (iv (BT p m ml (Av (p^m) a) u))):=Aa (aA.o.icongr fun j hj=>by rw[if_pos hj]);clear aA;go_wp2_with fail
   go_ret;exact⟨g,rfl,by rw[aH.o];exact aE.o,hx.o⟩
def Ea(blk cap:Nat->Nat)(N i:Nat):Value:= .slice (some (blk i,0)) N (cap i)
structure EM(w:World)(base g R N:Nat)(blk cap:Nat->Nat)(a:Nat->Nat->Int)(avs:List Nat):Prop where
 arr:AJ w base 22 g R (Ea blk cap N)
 row:∀i,i<R->Bb w base 3 (blk i) N (cap i) (iv (a i))
 apart:∀i j,i<R->j<R->i≠j->blk i≠blk j
 off:∀i,i<R->blk i≠g
 av:∀B∈avs,B<w.heap.size/\g≠B/\∀i,i<R->blk i≠B
def Kp(w w':World)(avs:List Nat):Prop:=∀B∈avs,w'.heap[B]?=w.heap[B]?
theorem Kp.trans{a b c:World}{avs:List Nat}(h:Kp a b avs)(k:Kp b c avs):Kp a c avs:=fun B hB=>(k B hB).trans (h B hB)
theorem Kp.cell{w w':World}{avs:List Nat}(h:Kp w w' avs){B o:Nat}{v:Value}(hB:B∈avs)(hc:w.cell? (B,o)=some v):w'.cell? (B,o)=some v:=by
 rw[World.cell?_of_block (h B hB)];exact hc
section
variable {w:World} {base g R N:Nat} {blk cap:Nat->Nat} {a:Nat->Nat->Int} {avs:List Nat}
theorem EM.ex(h:EM w base g R N blk cap a avs){w':World}(hx:Ex w w'):EM w' base g R N blk cap a avs:=
 ⟨h.arr.ex hx,fun i hi=>(h.row i hi).ex hx,h.apart,h.off,fun B hB=>by obtain⟨h1,h2⟩:=h.av B hB;exact⟨Δ h1 hx.size,h2⟩⟩
theorem EM.kpx(h:EM w base g R N blk cap a avs){w':World}(hx:Ex w w'):Kp w w' avs:=fun B hB=>hx.block B (h.av B hB).1
theorem EM.less(h:EM w base g R N blk cap a avs){bvs:List Nat}(hs:∀B∈bvs,B∈avs):EM w base g R N blk cap a bvs:=⟨h.arr,h.row,h.apart,h.off,fun B hB=>h.av B (hs B hB)⟩
theorem EM.box(h:EM w base g R N blk cap a avs)(o:Obj):EM (w.alloc o) base g R N blk cap a (w.heap.size :: avs):=by
 have h1:=h.ex ((Ex.refl w).alloc o);refine⟨h1.arr,h1.row,h1.apart,h1.off,fun C hC=>?_⟩;rcases ϒ.1 hC with rfl|hC
 .refine⟨ag,fun e=>?_,fun i hi e=>?_⟩
  .have:=h.arr.lt.2;omega
  .have:=(h.row i hi).lt.2;omega
 .exact h1.av C hC
theorem Df(w:World)(x:Addr)(u:Value):(w.setCell x u).heap.size=w.heap.size:=ag
theorem EM.setBox(h:EM w base g R N blk cap a avs){B j:Nat}(hB:B∈avs)(u:Value):EM (w.setCell (B,j) u) base g R N blk cap a avs:=by
 obtain⟨_,h2,h3⟩:=h.av B hB;exact⟨h.arr.other h2 u,fun i hi=>(h.row i hi).other (h3 i hi) u,h.apart,h.off,fun C hC=>by rw[Df];exact h.av C hC⟩
theorem EM.put(h:EM w base g R N blk cap a avs){s nb nc:Nat}{f:Nat->Int}(hs:s<R)(hn:Bb w base 3 nb N nc (iv f))(hb:∀i,i<R->i≠s->blk i≠nb)(hg:nb≠g)(ha:∀B∈avs,nb≠B):
  EM (w.setCell (g,s) (.slice (some (nb,0)) N nc)) base g R N (Ay blk s nb) (Ay cap s nc) (Ay a s f) avs:=by
 have hu:∀i,i≠s->Ay blk s nb i=blk i:=fun i hi=>Ac _ _ hi;refine⟨?_,fun i hi=>?_,fun i j hi hj aA=>?_,fun i hi=>?_,fun B hB=>?_⟩
 .refine(h.arr.set s _).congr fun i hi=>?_;unfold Ea;by_cases e:i=s
  .subst e;rw[Ab,Ab,Ab]
  .rw[Ac _ _ e,Ac _ _ e,Ac _ _ e]
 .by_cases e:i=s
  .subst e;rw[Ab,Ab,Ab];exact hn.other hg _
  .rw[Ac _ _ e,Ac _ _ e,Ac _ _ e];exact(h.row i hi).other (h.off i hi) _
 .by_cases e:i=s
  .subst e;rw[Ab,hu j (fun e=>aA e.symm)];exact fun e=>hb j hj (fun e=>aA e.symm) e.symm
  .by_cases e2:j=s
   .subst e2;rw[Ab,hu i e];exact hb i hi e
   .rw[hu i e,hu j e2];exact h.apart i j hi hj aA
 .by_cases e:i=s
  .subst e;rw[Ab];exact hg
  .rw[hu i e];exact h.off i hi
 .rw[Df];obtain⟨h1,h2,h3⟩:=h.av B hB;refine⟨h1,h2,fun i hi=>?_⟩;by_cases e:i=s
  .subst e;rw[Ab];exact ha B hB
  .rw[hu i e];exact h3 i hi
theorem EM.rowAt(h:EM w base g R N blk cap a avs){w':World}{s:Nat}{f:Nat->Int}(hs:s<R)(hn:Bb w' base 3 (blk s) N (cap s) (iv f))(hg:w.grownBy w' (some (blk s))):EM w' base g R N blk cap (Ay a s f) avs/\Kp w w' avs:=by
 refine⟨⟨?_,fun i hi=>?_,h.apart,h.off,fun B hB=>?_⟩,fun B hB=>?_⟩
 .exact World.ownsRow.kept h.arr hg (.inr (by show some g≠some (blk s);intro e;injection e with e;exact h.off s hs e.symm))
 .by_cases e:i=s
  .subst e;rw[Ab];exact hn
  .rw[Ac _ _ e];exact World.ownsRow.kept (h.row i hi) hg (.inr (by show some (blk i)≠some (blk s);intro e2;injection e2 with e2;exact h.apart i s hi hs e e2))
 .obtain⟨h1,h2⟩:=h.av B hB;exact⟨Δ h1 hg.size,h2⟩
 .obtain⟨h1,h2,h3⟩:=h.av B hB;exact hg.block B h1 (by intro e;injection e with e;exact h3 s hs e.symm)
theorem EM.cell(h:EM w base g R N blk cap a avs){i:Nat}(hi:i<R):w.cell? (g,i)=some (.slice (some (blk i,0)) N (cap i)):=h.arr.cell hi
theorem EM.ent(h:EM w base g R N blk cap a avs){i j:Nat}(hi:i<R)(hj:j<N):w.cell? (blk i,j)=some (.int .i64 (a i j)):=(h.row i hi).cell hj
def UC(b:Nat->Nat)(s k:Nat):Nat->Nat:=fun i=>if i=s then b k else if i=k then b s else b i
theorem EM.swp(h:EM w base g R N blk cap a avs){s k:Nat}(hs:s<R)(hk:k<R)(aB:s≠k):
  EM ((w.setCell (g,s) (Ea blk cap N k)).setCell (g,k) (Ea blk cap N s)) base g R N (UC blk s k) (UC cap s k) (DO a s k) avs:=by
 have aC:((w.setCell (g,s) (Ea blk cap N k)).setCell (g,k) (Ea blk cap N s)).heap.size=w.heap.size:=by rw[Df,Df]
 have aA:∀i,i<R->∃j,j<R/\UC blk s k i=blk j/\UC cap s k i=cap j/\DO a s k i=a j/\((i=s/\j=k)∨(i=k/\i≠s/\j=s)∨(i≠s/\i≠k/\j=i)):=fun i hi=>by
  unfold UC DO;by_cases e:i=s
  .exact⟨k,hk,by rw[if_pos e],by rw[if_pos e],by rw[if_pos e],.inl ⟨e,rfl⟩⟩
  .by_cases e2:i=k
   .exact⟨s,hs,by rw[if_neg e,if_pos e2],by rw[if_neg e,if_pos e2],by rw[if_neg e,if_pos e2],.inr (.inl ⟨e2,e,rfl⟩)⟩
   .exact⟨i,hi,by rw[if_neg e,if_neg e2],by rw[if_neg e,if_neg e2],by rw[if_neg e,if_neg e2],.inr (.inr ⟨e,e2,rfl⟩)⟩
 refine⟨?_,fun i hi=>?_,fun i j hi hj hij=>?_,fun i hi=>?_,fun B hB=>?_⟩
 .refine((h.arr.set s (Ea blk cap N k)).set k (Ea blk cap N s)).congr fun i hi=>?_;unfold Ea UC;by_cases e:i=k
  .subst e;rw[Ab,if_neg (fun e=>aB e.symm),if_pos rfl,if_neg (fun e=>aB e.symm),if_pos rfl]
  .rw[Ac _ _ e];by_cases e2:i=s
   .subst e2;rw[Ab,if_pos rfl,if_pos rfl]
   .rw[Ac _ _ e2,if_neg e2,if_neg e,if_neg e2,if_neg e]
 .obtain⟨j,hj,e1,e2,e3,_⟩:=aA i hi;rw[e1,e2,e3];exact((h.row j hj).other (h.off j hj) _).other (h.off j hj) _
 .obtain⟨i',aE,e1,_,_,c1⟩:=aA i hi;obtain⟨j',aD,e2,_,_,c2⟩:=aA j hj;rw[e1,e2];exact h.apart i' j' aE aD ac
 .obtain⟨j,hj,e1,_⟩:=aA i hi;rw[e1];exact h.off j hj
 .rw[aC];obtain⟨h1,h2,h3⟩:=h.av B hB;exact⟨h1,h2,fun i hi=>by obtain⟨j,hj,e1,_⟩:=aA i hi;rw[e1];exact h3 j hj⟩
theorem EM.kpg(h:EM w base g R N blk cap a avs)(s:Nat)(u:Value):Kp w (w.setCell (g,s) u) avs:=fun B hB=>by
 obtain⟨_,h2,_⟩:=h.av B hB;exact Below.heap_setCell w ⟨g,s,none⟩ u B (fun e=>h2 e.symm)
end
def Stp(w:World)(base g R N:Nat)(a':Nat->Nat->Int)(avs:List Nat)(r:Ending)(w':World):Prop:=
 (∃t,r= .returned t)/\(∃aB aA,EM w' base g R N aB aA a' avs)/\Kp w w' avs/\∀w0,Ex w0 w->w0.heap.size<=base->Ex w0 w'
theorem XM(w:World){base g R N:Nat}{blk cap:Nat->Nat}{a:Nat->Nat->Int}{avs:List Nat}(h:EM w base g R N blk cap a avs)(Bk Ba:Nat)(s k:Nat)(hs:s<R)(hk:k<R)(aA:s≠k)(aB:Bk∈avs)(aC:Ba∈avs)
  (ck:w.cell? (Bk,0)=some (.int .i64 k)) (ca:w.cell? (Ba,0)=some (.int .i64 s)):
  Calls Tryz.prog 249 #[.slice (some (g,0)) R R,(Bk,0),(Ba,0)] w (Stp w base g R N (DO a s k) avs):=by
 have c1:=h.cell hs;have c2:=h.cell hk;have f1:=h.arr.frz s;have f2:=h.arr.frz k;have i1:(0:Int)<=(s:Int):=ac;have i2:(s:Int)<(R:Int):=ac;have i3:(0:Int)<=(k:Int):=ac;have i4:(k:Int)<(R:Int):=ac;have n1:¬s=k:=aA;have n2:¬k=s:=fun e=>aA e.symm;have ck2:(w.setCell (g,s) (.slice (some (blk k,0)) N (cap k))).cell? (Bk,0)=some (.int .i64 k):=by rw[Ah (h.av Bk aB).2.1];exact ck
 have ca2:(w.setCell (g,s) (.slice (some (blk k,0)) N (cap k))).cell? (Ba,0)=some (.int .i64 s):=by rw[Ah (h.av Ba aC).2.1];exact ca
 have ck3:(w.setCell (g,k) (.slice (some (blk s,0)) N (cap s))).cell? (Bk,0)=some (.int .i64 k):=by rw[Ah (h.av Bk aB).2.1];exact ck
 have ca3:(w.setCell (g,k) (.slice (some (blk s,0)) N (cap s))).cell? (Ba,0)=some (.int .i64 s):=by rw[Ah (h.av Ba aC).2.1];exact ca
 have HE:=Aa (h.ex (Ex.refl w).drew);have HS:=Aa (HE.o.swp hs hk aA);have HM:=Aa (h.ex (Ex.refl w).drew |>.arr.set s (Ea blk cap N k));obtain⟨aE,aD,HB,HR⟩:=Of (show Kp (w.drew.setCell (g,s) (Ea blk cap N k)) ((w.drew.setCell (g,s) (Ea blk cap N k)).setCell (g,k) (Ea blk cap N s)) avs from fun B hB=>Below.heap_setCell _ ⟨g,k,none⟩ _ B (fun e=>(h.av B hB).2.1 e.symm)) (show ∀w0,Ex w0 w->w0.heap.size<=base->Ex w0 ((w.drew.setCell (g,s) (Ea blk cap N k)).setCell (g,k) (Ea blk cap N s)) from fun w0 hx hb=>HM.o.exSet hb (HE.o.arr.exSet hb hx.drew s _) k _) h (show s<R/\k<R/\s≠k from⟨hs,hk,aA⟩);clear h hs hk aA;go_enter Tryz.func249,Tryz.ntmps249
 go_wp2_with fail
 go_region
 all_goals
  go_wp2_with fail
  go_end0
  refine⟨⟨_,rfl⟩,⟨_,_,HS.o⟩,?_,fun w0 hx hb=>?_⟩
  .exact((HB.o.kpx (Ex.refl w).drew).trans (HE.o.kpg s (Ea blk cap N k))).trans (aE.o)
  .exact(aD.o w0 hx hb)
theorem XN{p m:Nat}{ml:List Int}{b x0:Nat}(w0 w:World)(hg:Bh w0 b p m ml x0)(aC:Ex w0 w){base g R N:Nat}{blk cap:Nat->Nat}{a:Nat->Nat->Int}{avs:List Nat}(h:EM w base g R N blk cap a avs)(hb:w0.heap.size<=base)(hN:N<=1000)(Bg Bi Ba:Nat)(s:Nat)(aB:Int)(hs:s<R)(hBg:Bg∈avs)(hBi:Bi∈avs)(hBa:Ba∈avs)
  (cg:w.cell? (Bg,0)=some (.pointer (some (b,0)))) (ci:w.cell? (Bi,0)=some (.int .i64 aB)) (ca:w.cell? (Ba,0)=some (.int .i64 s)):
  Calls Tryz.prog 251 #[.slice (some (g,0)) R R,(Bg,0),(Bi,0),(Ba,0)] w (Stp w base g R N (Ay a s (BT p m ml (Av (p^m) aB) (a s))) avs):=by
 have c1:=h.cell hs;have f1:=h.arr.frz s;have i1:(0:Int)<=(s:Int):=ac;have i2:(s:Int)<(R:Int):=ac;obtain⟨k1,k2⟩:=(h.row s hs).caps;unfold maxLen at k2;obtain⟨HB,HR,HX0,HBB,aL,aO,aN,aF⟩:=OK h hs aC hb (fun w' (hx:Ex w w')=>Nz w' (hg.ex (aC.trans hx)) N (a s) aB (.slice (some (blk s,0)) N (cap s)) (((h.row s hs).isl).ex hx) hN) ca f1 c1;clear h hs hg aC hb;go_enter Tryz.func251,Tryz.ntmps251
 go_wp2_with fail
 have E0:Ex w w.drew:=(Ex.refl w).drew
 go_region_law
  ((first
      | (go_simp;go_at_call 252;(with_reducible refine(aL.o _ E0).mono ?_);rintro e wx⟨gg,rfl,aA,hy⟩;have aD:=hy.cell (E0.cell aO.o);have aJ:=hy.cell (E0.cell aF.o);have aI:=hy.frz (E0.cell aF.o) (E0.frz aF.o aN.o))))
 all_goals
  have EX:=Aa (E0.trans hy);have aG:=Aa (HB.o.ex EX.o);have aH:=aA.lt.1;have aE:=Aa (aG.o.put HR.o (aA.mono (b':=base) (by have:=HB.o.arr.lt;have:=E0.size;omega):Bb wx base 3 gg N N _) (fun i hi _ e=>by have:=(HB.o.row i hi).lt.2;have:=E0.size;omega) (fun e=>by have:=HB.o.arr.lt.2;have:=E0.size;omega) (fun B hB e=>by have:=(HB.o.av B hB).1;have:=E0.size;omega));have aM:=Aa ((HB.o.kpx EX.o).trans (aG.o.kpg s (.slice (some (gg,0)) N N)));have aK:Hia (∀w0,Ex w0 w->w0.heap.size<=base->Ex w0 (wx.setCell (g,s) (.slice (some (gg,0)) N N))):=Aa (fun w0 hx hb=>aG.o.arr.exSet hb (hx.trans EX.o) s _);clear aA hy aD aJ aI aH E0 ca c1 f1;go_wp2_with fail
  go_end0
  exact⟨⟨_,rfl⟩,⟨_,_,aE.o⟩,aM.o,aK.o⟩
theorem XR{p m:Nat}{ml:List Int}{b x0:Nat}(w0 w:World)(hg:Bh w0 b p m ml x0)(aG:Ex w0 w){base g R N:Nat}{blk cap:Nat->Nat}{a:Nat->Nat->Int}{avs:List Nat}(h:EM w base g R N blk cap a avs)(hb:w0.heap.size<=base)(hN:N<=1000)(Bg Bi Bx Ba:Nat)(s i:Nat)(x:Int)(hs:s<R)(hi:i<R)(aH:i≠s)(aS:Bg∈avs)(aR:Bi∈avs)(aQ:Bx∈avs)(aT:Ba∈avs)
  (cg:w.cell? (Bg,0)=some (.pointer (some (b,0)))) (ci:w.cell? (Bi,0)=some (.int .i64 i)) (cx:w.cell? (Bx,0)=some (.int .i64 x)) (ca:w.cell? (Ba,0)=some (.int .i64 s)):
  Calls Tryz.prog 253 #[.slice (some (g,0)) R R,(Bg,0),(Bi,0),(Bx,0),(Ba,0)] w (Stp w base g R N (Ay a i (Cn p m ml (a i) (CL p m (Av (p^m) x)) (a s))) avs):=by
 have p2:=hg.sh.p2;have c1:=h.cell hs;have c2:=h.cell hi;have i1:(0:Int)<=(s:Int):=ac;have i2:(s:Int)<(R:Int):=ac;have i3:(0:Int)<=(i:Int):=ac;have i4:(i:Int)<(R:Int):=ac;obtain⟨HB,aV,HBB,HR⟩:=Of h aG hb (show s<R/\i<R/\i≠s from⟨hs,hi,aH⟩);obtain⟨K1,aI⟩:∃K,CL p m (Av (p^m) x)=K:=⟨_,rfl⟩;have aB:=Aa (fun w' (h:Ex w0 w')=>O9 w' (hg.ex h) x);have aD:K1<p^m:=by rw[<-aI];exact Dk ac _
 rw[aI]at aB ⊢;have aE:Hia (∀n,Calls Tryz.prog 254 #[(b,0),.slice (some (blk i,0)) N (cap i),(K1:Nat),.slice (some (blk s,0)) N (cap s)] (w.drewN n) fun r w'=>(∃t,r= .returned t)/\Bb w' base 3 (blk i) N (cap i) (iv (Cn p m ml (a i) K1 (a s)))/\(w.drewN n).grownBy w' (some (blk i))):=Aa (fun n=>by
  have:=WY w0 (w.drewN n) hg (aG.drewN n) N (blk i) (cap i) base (a i) (a s) (K1:Nat) (.slice (some (blk s,0)) N (cap s)) hb ((h.row i hi).drewN n) (((h.row s hs).drewN n).isl) (by show some (blk s)≠some (blk i);intro e;injection e with e;exact h.apart s i hs hi (fun e=>aH e.symm) e) hN;rw[AE aD]at this;exact this)
 obtain⟨aL,aK,aJ,aM,aO,aN,aC⟩:=To cg ci cx ca c1 c2 (show(∀B∈avs,some B≠some (blk i))/\some g≠some (blk i) from⟨fun B hB e=>by injection e with e;exact(h.av B hB).2.2 i hi e.symm,fun e=>by injection e with e;exact h.off i hi e.symm⟩);clear h hs hi aH hg aG hb aI aD p2;go_enter Tryz.func253,Tryz.ntmps253
 go_wp2_with fail
 have E0:Ex w w.drew:=(Ex.refl w).drew;have G0:Ex w0 w.drew:=aV.o.trans E0
 go_region_held3 (fun w'=>w'.cell? (Bg,0)=some (.pointer (some (b,0)))/\w'.cell? (Bi,0)=some (.int .i64 i)/\w'.cell? (Bx,0)=some (.int .i64 x)/\w'.cell? (Ba,0)=some (.int .i64 s)/\w'.cell? (g,i)=some (.slice (some (blk i,0)) N (cap i))/\w'.cell? (g,s)=some (.slice (some (blk s,0)) N (cap s)))
  (first|with_reducible exact⟨E0.cell aL.o,E0.cell aK.o,E0.cell aJ.o,E0.cell aM.o,E0.cell aN.o,E0.cell aO.o⟩|with_reducible exact⟨((Ex.refl w).drewN _).cell aL.o,((Ex.refl w).drewN _).cell aK.o,((Ex.refl w).drewN _).cell aJ.o,((Ex.refl w).drewN _).cell aM.o,((Ex.refl w).drewN _).cell aN.o,((Ex.refl w).drewN _).cell aO.o⟩|with_reducible exact⟨hgr.cell (((Ex.refl w).drewN _).cell aL.o) (aC.o.1 _ aS),hgr.cell (((Ex.refl w).drewN _).cell aK.o) (aC.o.1 _ aR),hgr.cell (((Ex.refl w).drewN _).cell aJ.o) (aC.o.1 _ aQ),hgr.cell (((Ex.refl w).drewN _).cell aM.o) (aC.o.1 _ aT),hgr.cell (((Ex.refl w).drewN _).cell aN.o) aC.o.2,hgr.cell (((Ex.refl w).drewN _).cell aO.o) aC.o.2⟩)
  ((first
      | (go_at_call 158;(with_reducible refine(aB.o _ G0).mono ?_);rintro e wx1⟨rfl,n1,rfl⟩)
      | (go_at_call 254;(with_reducible refine(aE.o _).mono ?_);rintro e wx2⟨⟨t,rfl⟩,hown,hgr⟩)))
 have aP:=Aa (fun n=>HB.o.ex ((Ex.refl w).drewN n));have aA:=Aa ((aP.o _).rowAt HR.o.2.1 hown hgr);have aW:=Aa ((HB.o.kpx ((Ex.refl w).drewN _)).trans aA.o.2);have aU:Hia (∀aF,Ex aF w->aF.heap.size<=base->Ex aF wx2):=Aa (fun aF hx hb=>Ex.grown (hx.drewN _) ((aP.o _).row i HR.o.2.1) hb hgr);have aX:=Aa aA.o.1;clear hown hgr E0 G0 aA aE aB;go_wp2_with fail
 go_end0
 exact⟨⟨_,rfl⟩,⟨_,_,aX.o⟩,aW.o,aU.o⟩
theorem XT(w:World){base g R N:Nat}{blk cap:Nat->Nat}{a:Nat->Nat->Int}{avs:List Nat}(h:EM w base g R N blk cap a avs)(Br Bs Bk Ba:Nat)(s k:Nat)(hs:s<R)(hk:k<R)(aA:s≠k)(aC:Bs∈avs)(aD:Bk∈avs)(aE:Ba∈avs)
  (cr:w.cell? (Br,0)=some (.slice (some (g,0)) R R)) (cs:w.cell? (Bs,0)=some (.slice none 0 0)) (ck:w.cell? (Bk,0)=some (.int .i64 k)) (ca:w.cell? (Ba,0)=some (.int .i64 s)):
  Calls Tryz.prog 248 #[.func (.func 249) #[] #[(Bk,0),(Ba,0)],(Br,0),(Bs,0)] w (Stp w base g R N (DO a s k) avs):=by
 have HC:=Aa (XM w h Bk Ba s k hs hk aA aD aE ck ca);have aH:=Aa aC;have aG:=Aa cs;clear h hs hk aA aC aD aE ck ca cs;go_enter Tryz.func248,Tryz.ntmps248
 go_wp2_with (go_at_call 249;refine HC.o.mono ?_;rintro e w2⟨⟨t,rfl⟩,BF,aB,aF⟩;have hcs:=aB.cell aH.o aG.o)
 go_end0
 exact⟨⟨_,rfl⟩,BF,aB,aF⟩
theorem XU{p m:Nat}{ml:List Int}{b x0:Nat}(w0 w:World)(hg:Bh w0 b p m ml x0)(aB:Ex w0 w){base g R N:Nat}{blk cap:Nat->Nat}{a:Nat->Nat->Int}{avs:List Nat}(h:EM w base g R N blk cap a avs)(hb:w0.heap.size<=base)(hN:N<=1000)(Br Bs Bg Bi Ba:Nat)(s:Nat)(aA:Int)(hs:s<R)(aD:Bs∈avs)(aF:Bg∈avs)(aE:Bi∈avs)(aG:Ba∈avs)
  (cr:w.cell? (Br,0)=some (.slice (some (g,0)) R R)) (cs:w.cell? (Bs,0)=some (.slice none 0 0)) (cg:w.cell? (Bg,0)=some (.pointer (some (b,0)))) (ci:w.cell? (Bi,0)=some (.int .i64 aA)) (ca:w.cell? (Ba,0)=some (.int .i64 s)):
  Calls Tryz.prog 248 #[.func (.func 251) #[] #[(Bg,0),(Bi,0),(Ba,0)],(Br,0),(Bs,0)] w (Stp w base g R N (Ay a s (BT p m ml (Av (p^m) aA) (a s))) avs):=by
 have HC:=Aa (XN w0 w hg aB h hb hN Bg Bi Ba s aA hs aF aE aG cg ci ca);have aJ:=Aa aD;have aI:=Aa cs;clear h hs aD aF aE aG cg ci ca cs hg aB hb;go_enter Tryz.func248,Tryz.ntmps248
 go_wp2_with (go_at_call 251;refine HC.o.mono ?_;rintro e w2⟨⟨t,rfl⟩,BF,aC,aH⟩;have hcs:=aC.cell aJ.o aI.o)
 go_end0
 exact⟨⟨_,rfl⟩,BF,aC,aH⟩
theorem XV{p m:Nat}{ml:List Int}{b x0:Nat}(w0 w:World)(hg:Bh w0 b p m ml x0)(aA:Ex w0 w){base g R N:Nat}{blk cap:Nat->Nat}{a:Nat->Nat->Int}{avs:List Nat}(h:EM w base g R N blk cap a avs)(hb:w0.heap.size<=base)(hN:N<=1000)(Br Bs Bg Bi Bx Ba:Nat)(s i:Nat)(x:Int)(hs:s<R)(hi:i<R)(aB:i≠s)(aE:Bs∈avs)(aG:Bg∈avs)(aF:Bi∈avs)(aD:Bx∈avs)(aH:Ba∈avs)
  (cr:w.cell? (Br,0)=some (.slice (some (g,0)) R R)) (cs:w.cell? (Bs,0)=some (.slice none 0 0)) (cg:w.cell? (Bg,0)=some (.pointer (some (b,0)))) (ci:w.cell? (Bi,0)=some (.int .i64 i)) (cx:w.cell? (Bx,0)=some (.int .i64 x)) (ca:w.cell? (Ba,0)=some (.int .i64 s)):
  Calls Tryz.prog 248 #[.func (.func 253) #[] #[(Bg,0),(Bi,0),(Bx,0),(Ba,0)],(Br,0),(Bs,0)] w (Stp w base g R N (Ay a i (Cn p m ml (a i) (CL p m (Av (p^m) x)) (a s))) avs):=by
 have HC:=Aa (XR w0 w hg aA h hb hN Bg Bi Bx Ba s i x hs hi aB aG aF aD aH cg ci cx ca);have aK:=Aa aE;have aJ:=Aa cs;clear h hs hi aB aE aG aF aD aH cg ci cx ca cs hg aA hb;go_enter Tryz.func248,Tryz.ntmps248
 go_wp2_with (go_at_call 253;refine HC.o.mono ?_;rintro e w2⟨⟨t,rfl⟩,BF,aC,aI⟩;have hcs:=aC.cell aK.o aJ.o)
 go_end0
 exact⟨⟨_,rfl⟩,BF,aC,aI⟩
end Go.Proofs.YtehieobniamagaaGreat
