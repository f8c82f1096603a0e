/- Plain: compatible partial maps; a refutation is sound; the search finds the first map. -/
import Derived.Test.YtehieobniamagaaGreatZm24
namespace Go.Proofs.YtehieobniamagaaGreat
open Go.RowKit
set_option linter.all false
set_option maxRecDepth 100000
set_option maxHeartbeats 8000000
section
variable {p m:Nat} {ml:List Int} {N:Nat}
theorem SA(hp:2<=p)(sc:List Int)(x:Nat->Int)(N:Nat):Je p m N (F5 p m ml sc x):=fun j _=>by
 have:=A5 (m:=m) (low:=lw ml) (show 1<=p by omega) (Au (p^m) (sc.getD j 0)) (Au (p^m) (x j));unfold F5;omega
theorem Sj{tl:List Int}{y:Nat->Int}{n:Nat}(hr:BB tl n=true)(hy:Je p m n y):Je p m tl.length (IL tl y):=fun j hj=>by
 have:=DU hr hj;exact hy _ ac
theorem Kj{l:List (List Int)}{n:Nat}(hl:∀r∈l,r.length=n/\B6 (p^m) r=0){i:Nat}(hi:i<l.length):Je p m n (Ao l i):=fun j hj=>by
 have h1:l.getD i []=l[i]:=aw;obtain⟨h2,h3⟩:=hl _ (List.getElem_mem hi);unfold Ao;rw[h1];exact K8 h3 _ (by rw[List.getD_eq_getElem?_getD,List.getElem?_eq_getElem ac];exact List.getElem_mem _)
def OC(p m:Nat)(ml:List Int)(l1 l2:List (List Int))(tl sc:List Int):Prop:=
 ∀x,BW p m ml tl.length l2.length (fun i=>IL tl (Ao l2 i)) x↔BW p m ml tl.length l1.length (fun i=>F5 p m ml sc (Ao l1 i)) x
structure UI(p m:Nat)(ml:List Int)(n:Nat)(l1 l2:List (List Int)):Prop where
 hp:2<=p
 hm:1<=m
 hF:GW p m (lw ml)
 h1:∀r∈l1,r.length=n/\B6 (p^m) r=0
 h2:∀r∈l2,r.length=n/\B6 (p^m) r=0
variable {l1 l2:List (List Int)} {n:Nat} {tl sc:List Int}
theorem UI.spL(h:UI p m ml n l1 l2)(t:Nat)(sc:List Int):Qn p m ml t l1.length (fun i=>F5 p m ml sc (Ao l1 i)) (GZ p m ml t (fun i=>F5 p m ml sc (Ao l1 i)) l1.length):=
 QI h.hp h.hm h.hF (K:=l1.length) (fun i _=>SA h.hp _ _ _) _ (Nat.le_refl _)
theorem UI.spR(h:UI p m ml n l1 l2)(hr:BB tl n=true):Qn p m ml tl.length l2.length (fun i=>IL tl (Ao l2 i)) (GZ p m ml tl.length (fun i=>IL tl (Ao l2 i)) l2.length):=
 QI h.hp h.hm h.hF (K:=l2.length) (fun i hi=>Sj hr (Kj h.h2 hi)) _ (Nat.le_refl _)
theorem UI.mis0(h:UI p m ml n l1 l2)(hr:BB tl n=true):IZ p m ml tl.length (GZ p m ml tl.length (fun i=>IL tl (Ao l2 i)) l2.length) (fun i=>F5 p m ml sc (Ao l1 i)) l1.length<0↔∀x,BW p m ml tl.length l2.length (fun i=>IL tl (Ao l2 i)) x->BW p m ml tl.length l1.length (fun i=>F5 p m ml sc (Ao l1 i)) x:=by
 rw[Pq h.hp h.hm (h.spR hr) fun i _=>SA h.hp _ _ _];exact Cl.sol_iff
theorem UI.mis1(h:UI p m ml n l1 l2)(hr:BB tl n=true):IZ p m ml tl.length (GZ p m ml tl.length (fun i=>F5 p m ml sc (Ao l1 i)) l1.length) (fun i=>IL tl (Ao l2 i)) l2.length<0↔∀x,BW p m ml tl.length l1.length (fun i=>F5 p m ml sc (Ao l1 i)) x->BW p m ml tl.length l2.length (fun i=>IL tl (Ao l2 i)) x:=by
 rw[Pq h.hp h.hm (h.spL _ sc) fun i hi=>Sj hr (Kj h.h2 hi)];exact Cl.sol_iff
theorem UI.wit(h:UI p m ml n l1 l2)(hr:BB tl n=true):(EZ p m ml l1 l2 tl sc).1<0↔OC p m ml l1 l2 tl sc:=by
 have e0:=h.mis0 (sc:=sc) hr;have e1:=h.mis1 (sc:=sc) hr;unfold EZ;simp only;split
 .rename_i h0;refine⟨fun h=>absurd h ag,fun hc=>?_⟩;have:=e0.2 fun x hx=>(hc x).1 hx;omega
 .rename_i h0;split
  .rename_i h1;refine⟨fun h=>absurd h ag,fun hc=>?_⟩;have:=e1.2 fun x hx=>(hc x).2 hx;omega
  .rename_i h1;refine⟨fun _ x=>⟨e0.1 ac x,e1.1 ac x⟩,fun _=>ag⟩
end
theorem Px{p m:Nat}(hp:1<=p){g:Nat->Nat}{K:Nat}:∀n,K<=n->(∀j,K<=j->j<n->g j=0)->ks p m g n=ks p m g K
 | 0,h,_=>by
   obtain rfl:K=0:=ac;rfl
 | n+1,h,hz=>by
  by_cases e:K=n+1
  .rw[e]
  .show AG p m (ks p m g n) (g n)=_
   rw[hz n ac ac,Cb hp (ks_lt hp _ _)];exact Px hp n ac fun j h1 h2=>hz j h1 ac
theorem P5{p m:Nat}{ml:List Int}(hp:1<=p){n K:Nat}(hK:K<=n)(f x:Nat->Int):dt p m ml n f (fun i=>if i<K then x i else 0)=dt p m ml K f x:=by
 rw[G8,G8,Px hp n hK fun j h1 _=>by
  show Ak p m (lw ml) _ (Au (p^m) (if j<K then x j else 0))=0
  rw[if_neg ac,CF,A9 hp]]
 exact Gl K fun j hj=>by rw[if_pos hj]
structure AZ(p m:Nat)(ml:List Int)(n:Nat)(l1 l2:List (List Int))(pl sl:List Int):Prop where
 pll:pl.length=n
 sll:sl.length=n
 nn:∀i,i<n->0<=pl.getD i 0
 inj:FV n (BD pl)
 sc:∀i,i<n->∃z:Nat,sl.getD i 0=z/\1<=z/\z<p^m
 sol:∀x,BW p m ml n l2.length (Ao l2) x↔BW p m ml n l1.length (fun i=>plc (BD pl) (F5 p m ml sl (Ao l1 i)) n) x
section
variable {p m:Nat} {ml:List Int} {n:Nat} {l1 l2:List (List Int)} {pl sl:List Int}
theorem Ck{l:List Int}{K j:Nat}(hj:j<K):(l.take K).getD j 0=l.getD j 0:=by
 rw[List.getD_eq_getElem?_getD,List.getElem?_take_of_lt hj,<-List.getD_eq_getElem?_getD]
theorem AZ.rng(h:AZ p m ml n l1 l2 pl sl)(K:Nat):BB (pl.take K) n=true:=by
 unfold BB;refine List.all_eq_true.2 fun x hx=>?_;obtain⟨i,hi,rfl⟩:=List.getElem_of_mem (List.mem_of_mem_take hx);have h1:=h.nn i (by have:=h.pll;omega);have h2:=h.inj.lt i (by have:=h.pll;omega);unfold BD at h2;have e:pl.getD i 0=pl[i]:=by rw[List.getD_eq_getElem?_getD,List.getElem?_eq_getElem hi];rfl
 rw[e]at h1 h2;simp;omega
theorem AZ.compat(h:AZ p m ml n l1 l2 pl sl)(hp:2<=p){K:Nat}(hK:K<=n):OC p m ml l1 l2 (pl.take K) (sl.take K):=by
 have hl:(pl.take K).length=K:=by rw[List.length_take,h.pll];omega
 intro x;rw[hl];have hz:∀i,i<n->plc (BD pl) (fun i=>if i<K then x i else 0) n (BD pl i)=if i<K then x i else 0:=fun i hi=>Kt h.inj _ n (Nat.le_refl _) i hi;have e2:∀i,dt p m ml n (Ao l2 i) (plc (BD pl) (fun i=>if i<K then x i else 0) n)=dt p m ml K (IL (pl.take K) (Ao l2 i)) x:=fun i=>by
  rw[JY,Ob ac h.inj,JY,P5 ac hK];refine Gu (fun j hj=>?_) fun _ _=>rfl;unfold IL BD;rw[Ck hj]
 have e1:∀i,dt p m ml n (plc (BD pl) (F5 p m ml sl (Ao l1 i)) n) (plc (BD pl) (fun i=>if i<K then x i else 0) n)=dt p m ml K (F5 p m ml (sl.take K) (Ao l1 i)) x:=fun i=>by
  rw[Ob ac h.inj,Gu (fun _ _=>rfl) hz,P5 ac hK];refine Gu (fun j hj=>?_) fun _ _=>rfl;unfold F5;rw[Ck hj]
 have:=h.sol (plc (BD pl) (fun i=>if i<K then x i else 0) n);constructor
 .intro hx i hi;rw[<-e1 i];exact this.1 (fun i hi=>by rw[e2 i];exact hx i hi) i hi
 .intro hx i hi;rw[<-e2 i];exact this.2 (fun i hi=>by rw[e1 i];exact hx i hi) i hi
theorem AZ.of(hp:2<=p)(h1:pl.length=n)(h2:sl.length=n)(h3:∀i,i<n->0<=pl.getD i 0)(h4:FV n (BD pl))(h5:∀i,i<n->∃z:Nat,sl.getD i 0=z/\1<=z/\z<p^m)(hc:OC p m ml l1 l2 pl sl):AZ p m ml n l1 l2 pl sl:=by
 refine⟨h1,h2,h3,h4,h5,fun x=>?_⟩;have e2:∀i,dt p m ml n (IL pl (Ao l2 i)) (fun i=>x (BD pl i))=dt p m ml n (Ao l2 i) x:=fun i=>by
  rw[G8,G8,<-h4.sum ac (g:=fun j=>Ak p m (lw ml) (Au (p^m) (Ao l2 i j)) (Au (p^m) (x j))) fun j=>A5 ac _ _];rfl
 have e1:∀i,dt p m ml n (plc (BD pl) (F5 p m ml sl (Ao l1 i)) n) x=dt p m ml n (F5 p m ml sl (Ao l1 i)) (fun i=>x (BD pl i)):=fun i=>Ob ac h4 _ _;have:=hc (fun i=>x (BD pl i));rw[h1]at this;constructor
 .intro hx i hi;show dt p m ml n (plc (BD pl) (F5 p m ml sl (Ao l1 i)) n) x=0
  rw[e1 i];exact this.1 (fun i hi=>by show dt p m ml n (IL pl (Ao l2 i)) _=0;rw[e2 i];exact hx i hi) i hi
 .intro hx i hi;rw[<-e2 i];exact this.2 (fun i hi=>by rw[<-e1 i];exact hx i hi) i hi
end
section
variable {σ:Type} {step:σ->List Int->List Int->σ × Int} {tl sc:List Int}
end
section
variable {p m:Nat} {ml:List Int} {n:Nat} {l1 l2:List (List Int)} {pl sl:List Int}
theorem AZ.step(h:AZ p m ml n l1 l2 pl sl){K:Nat}(hK:K<n):∃a:Nat,1<=a/\a<=p^m-1/\pl.getD K 0=((BD pl K:Nat):Int)/\sl.getD K 0=(a:Int)/\BD pl K<n/\(pl.take K).contains ((BD pl K:Nat):Int)=false/\pl.take (K+1)=pl.take K ++ [((BD pl K:Nat):Int)]/\sl.take (K+1)=sl.take K ++ [(a:Int)]:=by
 obtain⟨a,ha,a1,a2⟩:=h.sc K hK;have hn:=h.nn K hK;have e1:((BD pl K:Nat):Int)=pl.getD K 0:=by unfold BD;omega
 refine⟨a,a1,ac,e1.symm,ha,h.inj.lt K hK,?_,?_,?_⟩
 .cases hcon:(pl.take K).contains ((BD pl K:Nat):Int) with
  | false=>rfl
  | true=>
   exfalso;have aA:=List.contains_iff_mem.1 hcon;obtain⟨i,hi,e⟩:=List.getElem_of_mem aA;rw[List.length_take,h.pll]at hi;rw[List.getElem_take]at e;have e2:pl.getD i 0=pl[i]'(by have:=h.pll;omega):=by rw[List.getD_eq_getElem?_getD,List.getElem?_eq_getElem];rfl
   have:=h.inj.inj i K ac hK (by
    show(pl.getD i 0).toNat=_
    rw[e2,e];simp)
   omega
 .rw[List.take_add_one,List.getElem?_eq_getElem (by have:=h.pll;omega),e1,List.getD_eq_getElem?_getD,List.getElem?_eq_getElem (by have:=h.pll;omega)];rfl
 .rw[List.take_add_one,List.getElem?_eq_getElem (by have:=h.sll;omega),<-ha,List.getD_eq_getElem?_getD,List.getElem?_eq_getElem (by have:=h.sll;omega)];rfl
end
def OF(B:Nat):Nat->Nat
 | 0=>1
 | d+1=>1+B*OF B d
theorem MA(B:Nat):∀d,OF B d<=OF B (d+1)
 | 0=>by simp[OF]
 | d+1=>by
  show 1+B*OF B d<=1+B*OF B (d+1)
  have:=Nat.mul_le_mul_left B (MA B d);omega
theorem VH(B:Nat){d e:Nat}(h:d<=e):OF B d<=OF B e:=by
 obtain⟨k,rfl⟩:=Nat.exists_eq_add_of_le h
 induction k with
 | zero=>exact Nat.le_refl _
 | succ k ih=>exact Nat.le_trans (ih ac) (MA B _)
theorem SY{l:List Int}{x:Int}{i:Nat}(h:i<l.length):(l ++ [x]).getD i 0=l.getD i 0:=by
 rw[List.getD_eq_getElem?_getD,List.getElem?_append_left h,<-List.getD_eq_getElem?_getD]
theorem JX{l:List Int}{x:Int}:(l ++ [x]).getD l.length 0=x:=by
 exact zcA
structure Xx(q n:Nat)(tl sc:List Int):Prop where
 len:sc.length=tl.length
 rng:∀i,i<tl.length->0<=tl.getD i 0/\tl.getD i 0<n
 inj:∀i j,i<tl.length->j<i->tl.getD j 0≠tl.getD i 0
 sc:∀i,i<tl.length->∃z:Nat,sc.getD i 0=z/\1<=z/\z<q
theorem Xx.snoc{q n:Nat}{tl sc:List Int}(h:Xx q n tl sc){j a:Nat}(hj:j<n)(hc:tl.contains (j:Int)=false)(h1:1<=a)(h2:a<q):Xx q n (tl ++ [(j:Int)]) (sc ++ [(a:Int)]):=by
 have hl:(tl ++ [(j:Int)]).length=tl.length+1:=ag;refine⟨by simp[h.len],fun i hi=>?_,fun i k hi hk=>?_,fun i hi=>?_⟩
 .rw[hl]at hi;by_cases e:i=tl.length
  .rw[e,JX];omega
  .rw[SY ac];exact h.rng i ac
 .rw[hl]at hi;rw[SY (l:=tl) (i:=k) ac];by_cases e:i=tl.length
  .rw[e,JX];intro e2;have:tl.contains (j:Int)=true:=List.contains_iff_mem.2 (by
    rw[<-e2,List.getD_eq_getElem?_getD,List.getElem?_eq_getElem ac];exact List.getElem_mem _)
   rw[hc]at this;cases this
  .rw[SY ac];exact h.inj i k ac hk
 .rw[hl]at hi;by_cases e:i=tl.length
  .rw[e,<-h.len,JX];exact⟨a,rfl,h1,h2⟩
  .rw[SY (by rw[h.len];omega)];exact h.sc i ac
theorem Xx.rngB{q n:Nat}{tl sc:List Int}(h:Xx q n tl sc):BB tl n=true:=by
 unfold Go.Proofs.YtehieobniamagaaGreat.BB;refine List.all_eq_true.2 fun x hx=>?_;obtain⟨i,hi,rfl⟩:=List.getElem_of_mem hx;have h1:=h.rng i hi;have e:tl.getD i 0=tl[i]:=aw;rw[e]at h1;simp;omega
theorem Xx.injN{q n:Nat}{tl sc:List Int}(h:Xx q n tl sc)(hl:tl.length=n):FV n (BD tl):=by
 refine⟨fun i hi=>?_,fun i j hi hj e=>Classical.byContradiction fun aA=>?_⟩
 .have:=h.rng i ac;unfold BD;omega
 .have h1:=h.rng i ac;have h2:=h.rng j ac;unfold BD at e;rcases Nat.lt_or_gt_of_ne aA with g|g
  .exact h.inj j i ac g ac
  .exact h.inj i j ac g ac
structure Xz(p m:Nat)(ml:List Int)(l1 l2:List (List Int))(n:Nat)(nd:Nd)(tl sc:List Int):Prop where
 v:Xx (p^m) n nd.tl nd.sc
 len:nd.tl.length=n
 t:nd.tl.take tl.length=tl
 s:nd.sc.take tl.length=sc
 c:OC p m ml l1 l2 nd.tl nd.sc
def M6(n:Nat)(nd:Nd)(pl sl:List Int):Prop:=
 ∃i,i<=n/\(∀k,k<i->nd.tl.getD k 0=pl.getD k 0/\nd.sc.getD k 0=sl.getD k 0)/\(i=n∨nd.tl.getD i 0<pl.getD i 0∨(nd.tl.getD i 0=pl.getD i 0/\nd.sc.getD i 0<sl.getD i 0))
theorem Mm{l t:List Int}{x:Int}(h:l.take (t.length+1)=t ++ [x]):l.take t.length=t/\l.getD t.length 0=x:=by
 constructor
 .have:(l.take (t.length+1)).take t.length=(t ++ [x]).take t.length:=by rw[h]
  rw[List.take_take,show min t.length (t.length+1)=t.length from ac,List.take_left]at this;exact this
 .have h2:(l.take (t.length+1)).getD t.length 0=l.getD t.length 0:=Ck ac;rw[<-h2,h,JX]
section
variable {p m:Nat} {ml:List Int} {n:Nat} {l1 l2:List (List Int)} {pl sl tl sc:List Int} {nd:Nd}
theorem Xz.back{j a:Int}(h:Xz p m ml l1 l2 n nd (tl ++ [j]) (sc ++ [a]))(hl:sc.length=tl.length):Xz p m ml l1 l2 n nd tl sc/\nd.tl.getD tl.length 0=j/\nd.sc.getD tl.length 0=a:=by
 have h1:=h.t;have h2:=h.s;rw[List.length_append]at h1 h2;obtain⟨a1,a2⟩:=Mm (t:=tl) h1;obtain⟨b1,b2⟩:=Mm (t:=sc) (by rw[hl];exact h2);rw[hl]at b1 b2;exact⟨⟨h.v,h.len,a1,b1,h.c⟩,a2,b2⟩
theorem Xz.lex{j a:Int}(h:Xz p m ml l1 l2 n nd (tl ++ [j]) (sc ++ [a]))(hl:sc.length=tl.length)(hK:tl.length<n)(hp:pl.take tl.length=tl)(hs:sl.take tl.length=sc)(aA:j<pl.getD tl.length 0∨(j=pl.getD tl.length 0/\a<sl.getD tl.length 0)):M6 n nd pl sl:=by
 obtain⟨h0,h1,h2⟩:=h.back hl;refine⟨tl.length,ac,fun k hk=>?_,.inr (by rw[h1,h2];exact aA)⟩;have e1:nd.tl.getD k 0=tl.getD k 0:=by rw[<-Ck (l:=nd.tl) hk,h0.t]
 have e2:nd.sc.getD k 0=sc.getD k 0:=by rw[<-Ck (l:=nd.sc) hk,h0.s]
 have e3:pl.getD k 0=tl.getD k 0:=by rw[<-Ck (l:=pl) hk,hp]
 have e4:sl.getD k 0=sc.getD k 0:=by rw[<-Ck (l:=sl) hk,hs]
 rw[e1,e2,e3,e4];exact⟨rfl,rfl⟩
structure Xf(p m:Nat)(ml:List Int)(l1 l2:List (List Int))(n b s0:Nat)(tl sc:List Int)(r:(Nat × List Nd) × Int):Prop where
 cnt:r.1.1<=s0+b
 res:r.2=0∨(r.2=18/\Xz p m ml l1 l2 n (Cp r.1.2) tl sc)
 fnd:∀pl sl,AZ p m ml n l1 l2 pl sl->pl.take tl.length=tl->sl.take tl.length=sc->r.2=18/\M6 n (Cp r.1.2) pl sl
variable {step:Nat × List Nd->List Int->List Int->(Nat × List Nd) × Int} {b:Nat}
theorem O9(hl:sc.length=tl.length)(hK:tl.length<n){j:Nat}(aA:∀(a:Nat) s,1<=a->a<=p^m-1->s.1+b<=65536->Xf p m ml l1 l2 n b s.1 (tl ++ [(j:Int)]) (sc ++ [(a:Int)]) (step s (tl ++ [(j:Int)]) (sc ++ [(a:Int)]))):
  ∀c,c<=p^m-1->∀s,s.1+c*b<=65536->(F9 step tl sc j c s).1.1<=s.1+c*b/\((F9 step tl sc j c s).2=0∨((F9 step tl sc j c s).2=18/\∃a:Nat,1<=a/\a<=c/\Xz p m ml l1 l2 n (Cp (F9 step tl sc j c s).1.2) (tl ++ [(j:Int)]) (sc ++ [(a:Int)])))/\
   ∀pl sl,AZ p m ml n l1 l2 pl sl->pl.take tl.length=tl->sl.take tl.length=sc->pl.getD tl.length 0=j->sl.getD tl.length 0<=c->(F9 step tl sc j c s).2=18/\M6 n (Cp (F9 step tl sc j c s).1.2) pl sl
 | 0,_,s,_=>by
  refine⟨by show s.1<=_;omega,.inl rfl,fun pl sl hT h1 h2 h3 h4=>?_⟩;obtain⟨z,hz,h5,_⟩:=hT.sc tl.length hK;rw[hz]at h4;omega
 | c+1,hc,s,hs=>by
  have hm:(c+1)*b=c*b+b:=by rw[Nat.add_mul,Nat.one_mul]
  obtain⟨i1,i2,i3⟩:=O9 hl hK aA c ac s ac;by_cases h0:(F9 step tl sc j c s).2=0
  .have e:F9 step tl sc j (c+1) s=step (F9 step tl sc j c s).1 (tl ++ [(j:Int)]) (sc ++ [((c+1:Nat):Int)]):=by
    show(if _ then _ else _)=_
    rw[if_neg (fun h=>h h0)]
   rw[e];have ho:=aA (c+1) (F9 step tl sc j c s).1 ac hc ac;refine⟨by have:=ho.cnt;omega,?_,fun pl sl hT h1 h2 h3 h4=>?_⟩
   .rcases ho.res with h|⟨h,hf⟩
    .exact .inl h
    .exact .inr ⟨h,c+1,ac,ac,hf⟩
   .by_cases h5:sl.getD tl.length 0<=c
    .have:=(i3 pl sl hT h1 h2 h3 h5).1;rw[h0]at this;cases this
    .obtain⟨a,a1,a2,b1,b2,_,_,c1,c2⟩:=hT.step hK;have ea:a=c+1:=by omega
     have ej:((BD pl tl.length:Nat):Int)=j:=by rw[<-b1,h3]
     refine ho.fnd pl sl hT ?_ ?_
     .rw[List.length_append];show pl.take (tl.length+1)=_
      rw[c1,h1,ej]
     .rw[List.length_append];show sl.take (tl.length+1)=_
      rw[c2,h2,ea]
  .have e:F9 step tl sc j (c+1) s=F9 step tl sc j c s:=by
    show(if _ then _ else _)=_
    rw[if_pos h0]
   rw[e];rcases i2 with h|⟨h,a,a1,a2,hf⟩
   .exact absurd h h0
   .refine⟨ac,.inr ⟨h,a,a1,ac,hf⟩,fun pl sl hT h1 h2 h3 h4=>?_⟩;by_cases h5:sl.getD tl.length 0<=c
    .exact i3 pl sl hT h1 h2 h3 h5
    .exact⟨h,hf.lex hl hK h1 h2 (.inr ⟨h3.symm,ac⟩)⟩
theorem O6(hl:sc.length=tl.length)(hK:tl.length<n)(aA:∀(j a:Nat) s,j<n->tl.contains (j:Int)=false->1<=a->a<=p^m-1->s.1+b<=65536->Xf p m ml l1 l2 n b s.1 (tl ++ [(j:Int)]) (sc ++ [(a:Int)]) (step s (tl ++ [(j:Int)]) (sc ++ [(a:Int)]))):
  ∀J,J<=n->∀s,s.1+J*((p^m-1)*b)<=65536->(Ef step (p^m) tl sc J s).1.1<=s.1+J*((p^m-1)*b)/\((Ef step (p^m) tl sc J s).2=0∨((Ef step (p^m) tl sc J s).2=18/\∃j a:Nat,j<J/\Xz p m ml l1 l2 n (Cp (Ef step (p^m) tl sc J s).1.2) (tl ++ [(j:Int)]) (sc ++ [(a:Int)])))/\
   ∀pl sl,AZ p m ml n l1 l2 pl sl->pl.take tl.length=tl->sl.take tl.length=sc->pl.getD tl.length 0<J->(Ef step (p^m) tl sc J s).2=18/\M6 n (Cp (Ef step (p^m) tl sc J s).1.2) pl sl
 | 0,_,s,_=>by
  refine⟨by show s.1<=_;omega,.inl rfl,fun pl sl hT h1 h2 h3=>?_⟩;have:=hT.nn tl.length hK;omega
 | J+1,hJ,s,hs=>by
  have hm:(J+1)*((p^m-1)*b)=J*((p^m-1)*b)+(p^m-1)*b:=by rw[Nat.add_mul,Nat.one_mul]
  obtain⟨i1,i2,i3⟩:=O6 hl hK aA J ac s ac;by_cases h0:(Ef step (p^m) tl sc J s).2=0
  .cases hc:tl.contains (J:Int) with
   | true=>
    have e:Ef step (p^m) tl sc (J+1) s=Ef step (p^m) tl sc J s:=by
     show(if _ then _ else if _ then _ else _)=_
     rw[if_neg (fun h=>h h0),if_pos hc]
    rw[e];refine⟨ac,.inl h0,fun pl sl hT h1 h2 h3=>?_⟩;by_cases h5:pl.getD tl.length 0<J
    .exact i3 pl sl hT h1 h2 h5
    .obtain⟨a,a1,a2,b1,b2,_,d1,c1,c2⟩:=hT.step hK;have ej:((BD pl tl.length:Nat):Int)=J:=by rw[<-b1];omega
     rw[h1,ej,hc]at d1;cases d1
   | false=>
    have e:Ef step (p^m) tl sc (J+1) s=F9 step tl sc J (p^m-1) (Ef step (p^m) tl sc J s).1:=by
     show(if _ then _ else if _ then _ else _)=_
     rw[if_neg (fun h=>h h0),if_neg (by rw[hc];decide)]
    rw[e];obtain⟨k1,k2,k3⟩:=O9 (p:=p) (m:=m) (ml:=ml) (l1:=l1) (l2:=l2) (step:=step) (b:=b) hl hK (j:=J) (fun a s h1 h2 h3=>aA J a s ac hc h1 h2 h3) (p^m-1) (Nat.le_refl _) (Ef step (p^m) tl sc J s).1 ac;refine⟨ac,?_,fun pl sl hT h1 h2 h3=>?_⟩
    .rcases k2 with h|⟨h,a,a1,a2,hf⟩
     .exact .inl h
     .exact .inr ⟨h,J,a,ac,hf⟩
    .by_cases h5:pl.getD tl.length 0<J
     .have:=(i3 pl sl hT h1 h2 h5).1;rw[h0]at this;cases this
     .obtain⟨a,a1,a2,b1,b2,_,_,c1,c2⟩:=hT.step hK;exact k3 pl sl hT h1 h2 ac ac
  .have e:Ef step (p^m) tl sc (J+1) s=Ef step (p^m) tl sc J s:=by
    show(if _ then _ else if _ then _ else _)=_
    rw[if_pos h0]
   rw[e];rcases i2 with h|⟨h,j,a,hj,hf⟩
   .exact absurd h h0
   .refine⟨ac,.inr ⟨h,j,a,ac,hf⟩,fun pl sl hT h1 h2 h3=>?_⟩;by_cases h5:pl.getD tl.length 0<J
    .exact i3 pl sl hT h1 h2 h5
    .exact⟨h,hf.lex hl hK h1 h2 (.inl ac)⟩
theorem Sa(hW:UI p m ml n l1 l2):∀d tl sc s,Xx (p^m) n tl sc->tl.length+d=n->s.1+OF (n*(p^m-1)) d<=65536->Xf p m ml l1 l2 n (OF (n*(p^m-1)) d) s.1 tl sc (LF p m ml l1 l2 n d s tl sc)
 | d,tl,sc,s,hv,hd,hs=>by
  have hb1:1<=OF (n*(p^m-1)) d:=by cases d <;> simp[OF]
  have aA:=hW.wit (sc:=sc) hv.rngB;unfold LF;rw[if_neg ac];simp only;by_cases h1:0<=(EZ p m ml l1 l2 tl sc).1
  .rw[if_pos h1];refine⟨by show s.1+1<=_;omega,.inl rfl,fun pl sl hT e1 e2=>?_⟩;have hc:=hT.compat hW.hp (K:=tl.length) ac;rw[e1,e2]at hc;have:=aA.2 hc;omega
  .have hc:=aA.1 ac;rw[if_neg h1];by_cases h2:tl.length=n
   .rw[if_pos h2];refine⟨by show s.1+1<=_;omega,.inr ⟨rfl,?_⟩,fun pl sl hT e1 e2=>⟨rfl,?_⟩⟩
    .simp only[Fq];exact⟨hv,h2,List.take_length,by rw[<-hv.len];exact List.take_length,hc⟩
    .simp only[Fq];refine⟨n,Nat.le_refl _,fun k hk=>⟨?_,?_⟩,.inl rfl⟩
     .show tl.getD k 0=_
      rw[<-e1,Ck ac]
     .show sc.getD k 0=_
      rw[<-e2,Ck ac]
   .rw[if_neg h2]
    cases d with
    | zero=>omega
    | succ d=>
     simp only;have hB:OF (n*(p^m-1)) (d+1)=1+n*((p^m-1)*OF (n*(p^m-1)) d):=by
      show 1+n*(p^m-1)*OF (n*(p^m-1)) d=_
      rw[Nat.mul_assoc]
     have hK:tl.length<n:=ac;obtain⟨k1,k2,k3⟩:=O6 (p:=p) (m:=m) (ml:=ml) (l1:=l1) (l2:=l2) (n:=n) (step:=LF p m ml l1 l2 n d) (b:=OF (n*(p^m-1)) d) hv.len hK (fun j a s hj aB h1 h2 h3=>Sa hW d _ _ s (hv.snoc hj aB h1 ac) (by rw[List.length_append];show tl.length+1+d=n;omega) h3) n (Nat.le_refl _) (s.1+1,s.2 ++ [⟨tl,sc,(EZ p m ml l1 l2 tl sc).1,JD l1.length l2.length (EZ p m ml l1 l2 tl sc)⟩]) (by show s.1+1+_<=_;omega);refine⟨by rw[hB];have k1':_<=s.1+1+_:=k1;omega,?_,fun pl sl hT e1 e2=>?_⟩
     .rcases k2 with h|⟨h,j,a,hj,hf⟩
      .exact .inl h
      .exact .inr ⟨h,(hf.back hv.len).1⟩
     .have:=hT.inj.lt tl.length hK;have hnn:=hT.nn tl.length hK;unfold BD at this;exact k3 pl sl hT e1 e2 ac
end
theorem Iu{p m n:Int}{ml:List Int}{rows:List (List Int)}(h:BL p m ml n rows 0):∃pn mn N:Nat,p=pn/\m=mn/\n=N/\GP pn mn ml/\GW pn mn (lw ml)/\1<=N/\N<=64/\rows.length<=256/\∀r∈rows,r.length=N/\B6 (pn^mn) r=0:=by
 obtain⟨hF,hn1,hn2⟩:=EF h;rcases h with⟨_,h⟩|⟨_,h1,h2⟩|⟨h1,h2,h3⟩
 .cases h
 .exact absurd h2.symm h1
 .rcases h3 with⟨h3,h4⟩|⟨_,pn,mn,N,piv,a',rfl,rfl,rfl,_,hm,_⟩
  .exact absurd h4.symm h3
  .obtain⟨p1,m1,e1,e2,aA,_,hI⟩:=hF;obtain rfl:pn=p1:=by omega
   obtain rfl:mn=m1:=ac;obtain⟨_,_,s3,s4⟩:=Ev hm;exact⟨pn,mn,N,rfl,rfl,rfl,aA,hI,ac,ac,s3,fun r hr=>⟨by have:=(s4 r hr).1;omega,(s4 r hr).2⟩⟩
theorem O4{N k i j:Nat}{a:Nat->Nat->Int}(hi:i<k)(hj:j<N):Ao (Aw N k a) i j=a i j:=by
 unfold Ao;rw[List.getD_eq_getElem?_getD (l:=Aw N k a),Dm hi];exact Gt hj _
theorem Zn{p m:Nat}{ml:List Int}{N R:Nat}{a a':Nat->Nat->Int}{piv:List Nat}(hp:2<=p)(h:Hs p m ml N R a a' piv)(x:Nat->Int):BW p m ml N (Aw N piv.length a').length (Ao (Aw N piv.length a')) x↔BW p m ml N R a x:=by
 obtain⟨c,hc,hP,aA,hS⟩:=h;rw[<-hS x,AU];have e:∀i,i<piv.length->dt p m ml N (Ao (Aw N piv.length a') i) x=dt p m ml N (a' i) x:=fun i hi=>Gu (fun j hj=>O4 hi hj) fun _ _=>rfl;constructor
 .intro h i hi;by_cases hip:i<piv.length
  .rw[<-e i hip];exact h i hip
  .refine GO hp fun j hj=>?_;rcases aA with h1|h1
   .omega
   .exact hP.tail i j ac hi ac
 .intro h i hi;rw[e i hi];exact h i (by have:=hP.le;omega)
theorem TM{p m:Nat}{ml pl ul:List Int}{N:Nat}{l1:List (List Int)}{i j:Nat}(hp:2<=p)(hm:1<=m)(hi:i<l1.length)(hj:j<N):Ao (Fd p m ml pl ul 0 N l1 l1.length) i j=plc (BD pl) (F5 p m ml ul (Ao l1 i)) N j:=by
 have e:(Fd p m ml pl ul 0 N l1 l1.length).getD i []=il N (KV p m ml pl ul 0 (l1.getD i []) N):=by
  unfold Fd;rw[List.getD_eq_getElem?_getD,List.getElem?_map,List.getElem?_take_of_lt hi,List.getElem?_eq_getElem hi,List.getD_eq_getElem?_getD,List.getElem?_eq_getElem hi];rfl
 show((Fd p m ml pl ul 0 N l1 l1.length).getD i []).getD j 0=_
 rw[e,Gt hj];rfl
theorem Sb{p m:Nat}{ml pl ul:List Int}{N:Nat}{l1:List (List Int)}(hp:2<=p)(hm:1<=m)(x:Nat->Int):BW p m ml N (Fd p m ml pl ul 0 N l1 l1.length).length (Ao (Fd p m ml pl ul 0 N l1 l1.length)) x↔BW p m ml N l1.length (fun i=>plc (BD pl) (F5 p m ml ul (Ao l1 i)) N) x:=by
 rw[Ik (Nat.le_refl _)];have e:∀i,i<l1.length->dt p m ml N (Ao (Fd p m ml pl ul 0 N l1 l1.length) i) x=dt p m ml N (plc (BD pl) (F5 p m ml ul (Ao l1 i)) N) x:=fun i hi=>Gu (fun j hj=>TM hp hm hi hj) fun _ _=>rfl;exact⟨fun h i hi=>by show dt p m ml N (plc _ _ N) x=0;rw[<-e i hi];exact h i hi,fun h i hi=>by rw[e i hi];exact h i hi⟩
theorem US{p m:Nat}{ml pl ul:List Int}{N:Nat}{l1 l2:List (List Int)}(h:Bq p m ml pl ul 0 N)(h0:∀i,i<N->0<=pl.getD i 0){a':Nat->Nat->Int}{piv:List Nat}(aA:Hs p m ml N (Fd p m ml pl ul 0 N l1 l1.length).length (Ao (Fd p m ml pl ul 0 N l1 l1.length)) a' piv)(hd:Aw N piv.length a'=l2):AZ p m ml N l1 l2 pl ul:=by
 refine⟨h.pll,h.sll,h0,h.inj,h.sc,fun x=>?_⟩;rw[<-hd,Zn h.hp aA x];exact Sb h.hp h.hm x
theorem Hz{pl tl:List Int}(h:tl.length<=pl.length)(aA:∀i,i<tl.length->pl.getD i 0=tl.getD i 0):pl.take tl.length=tl:=by
 refine List.ext_getElem bn fun i h1 h2=>?_;have:=aA i h2;rw[List.getD_eq_getElem?_getD,List.getElem?_eq_getElem ac,List.getD_eq_getElem?_getD,List.getElem?_eq_getElem h2]at this;rw[List.getElem_take];exact this
def Kb(N q:Nat):Nat->Nat × Nat
 | 0=>(1,1)
 | i+1=>((Kb N q i).1*((N-i)*max 1 (q-1)),(Kb N q i).2+(Kb N q i).1*((N-i)*max 1 (q-1)))
def UC(n:Int)(q:Nat):Prop:=(n<1∨7<n->n<1∨64<n)/\(1<=n->n<=7->∀i,i<=n.toNat->(Kb n.toNat q i).2<=3000)
theorem TG:∀N,N<8->∀q,q<17->(Kb N q N).2<=3000->OF (N*(q-1)) N<=65536:=ak
theorem YH{q N:Nat}{rows:List (List Int)}(hN:N<=256)(hr:rows.length<=256)(h:∀r∈rows,r.length=N/\B6 q r=0):BV q N rows=0:=by
 unfold BV;rw[if_neg ac,if_pos (List.all_eq_true.2 fun r hr=>by simp[(h r hr).1]),if_pos (List.all_eq_true.2 fun r hr=>by simp[(h r hr).2])]
theorem Wj{p m:Nat}{ml pl ul:List Int}{fr N:Nat}{x:List Int}(h:Bq p m ml pl ul fr N):B6 (p^m) (il N (KV p m ml pl ul fr x N))=0:=S8 fun y hy=>by
 obtain⟨i,hi,rfl⟩:=List.getElem_of_mem hy;rw[AJ]at hi;obtain⟨z,h1,h2⟩:=YV h (x:=x) i hi;rw[List.getD_eq_getElem?_getD,List.getElem?_eq_getElem (by rw[AJ];exact hi)]at h1;have aA:(il N (KV p m ml pl ul fr x N))[i]'(by rw[AJ];exact hi)=z:=h1;rw[aA];omega
theorem imL_ok{p m:Nat}{ml pl ul:List Int}{fr N:Nat}{l1:List (List Int)}(h:Bq p m ml pl ul fr N):∀r∈Fd p m ml pl ul fr N l1 l1.length,r.length=N/\B6 (p^m) r=0:=fun r hr=>by
 unfold Fd at hr;obtain⟨x,_,rfl⟩:=List.mem_map.1 hr;exact⟨AJ _ _,Wj h⟩
theorem VG{p m:Nat}{ml pl ul:List Int}{fr N:Nat}{l1:List (List Int)}(hc:B9 p m ml=0)(hl:l1.length<=256)(h:Bq p m ml pl ul fr N):KB p m ml N (Fd p m ml pl ul fr N l1 l1.length)=0:=by
 have h1:DE p m ml N (Fd p m ml pl ul fr N l1 l1.length)=0:=by
  unfold DE;rw[if_neg (fun h=>h hc)];have e:(p:Int).toNat^(m:Int).toNat=p^m:=ag;rw[e];exact YH (by have:=h.n2;omega) (by rw[Ik (Nat.le_refl _)];exact hl) (imL_ok h)
 unfold KB;rw[if_neg (fun h=>h h1)];unfold EN;rw[if_neg (by have:=h.n1;have:=h.n2;omega)]
section
variable {p m:Nat} {ml:List Int} {n:Nat} {l1 l2:List (List Int)} {pl sl:List Int}
theorem ee{P:Prop}(h:P:=by rw[h.len];exact hi):P:=h
theorem Xz.takes{tl sc:List Int}{nd:Nd}(hp:2<=p)(h:Xz p m ml l1 l2 n nd tl sc):AZ p m ml n l1 l2 nd.tl nd.sc:=
 AZ.of hp h.len (by rw[h.v.len];exact h.len) (fun i hi=>(h.v.rng i ee).1) (h.v.injN h.len) (fun i hi=>h.v.sc i ee) h.c
end
theorem Xa{p m N fr:Nat}{ml pl ul:List Int}{rows:List (List Int)}{b0:Nat}{r:Ending}{w':World}(h:ZK p m ml N rows pl ul fr b0 r w')(ho:BL p m ml N rows 0)(aA:CW p m ml N pl ul fr=0):
  ∃(piv:List Nat) (a':Nat->Nat->Int) (rv v':Value),r= .returned (.tuple #[.agg #[.int .i64 p,.int .i64 m,v',.int .i64 N,rv],.int .i64 0])/\Hs p m ml N (Fd p m ml pl ul fr N rows rows.length).length (Ao (Fd p m ml pl ul fr N rows rows.length)) a' piv/\Aj w' v' ml/\BY w' rv (Aw N piv.length a'):=by
 obtain⟨e1,aB,h⟩:=h;obtain rfl:=Cc aB ho;have aC:imA p m ml pl ul fr N rows=Fd p m ml pl ul fr N rows rows.length:=by unfold imA;simp
 obtain⟨p2,m2,N2,f2,j1,j2,j3,j4,hf,aD,hM⟩:=KE aA;obtain rfl:p=p2:=ac;obtain rfl:m=m2:=ac;obtain rfl:N=N2:=ac;obtain rfl:fr=f2:=ac;rcases h with⟨h,_⟩|⟨_,h,_⟩|⟨_,_,h⟩
 .exact absurd rfl h
 .exact absurd aA h
 .rw[aC]at h;rcases h with⟨h,_⟩|⟨_,pn,mn,N',piv,a',rv,v',e1,e2,e3,_,_,hr,hel,hv,hrv,_⟩
  .exact absurd (VG aD (Dp ho).1 hM) h
  .obtain rfl:p=pn:=by omega
   obtain rfl:m=mn:=ac;obtain rfl:N=N':=ac;exact⟨piv,a',rv,v',hr,hel,hv,hrv⟩
theorem Pk{p m:Nat}{ml:List Int}(h:GP p m ml):CD p m=((p^m:Nat):Int):=by
 unfold CD;have h1:((p:Int)^(m:Int).toNat)=((p^m:Nat):Int):=ag;have h2:=h.p2;have h3:=h.m1;have h4:=h.m8;have h5:=h.q;rw[h1,if_pos ac]
def Dl(x:Nat):Prop:=x<BH^200
theorem Dl.len{x n:Nat}{f:Nat->Nat}(h:Dl x)(hc:Jn n f)(hv:vS f n=x):n<=1000:=Nat.le_trans (hc.len (by rw[hv];exact h)) ac
theorem GD{x:Nat}(h:x<18446744073709551616):Dl x:=by
 have h1:(18446744073709551616:Nat)=BH^2:=ae;have h2:BH^2<=BH^200:=Nat.pow_le_pow_right Iw ac;unfold Dl;omega
theorem W5:Jn 1 fun _=>1:=⟨fun _ _=>ae,fun _ _=>ac⟩
theorem Z8:vS (fun _=>1) 1=1:=ae
def NMl(w:World)(v:Value)(xs:List Nat):Prop:=∃vals:List Value,Sl w v xs.length 1 vals/\∀(i x:Nat) (u:Value),xs[i]?=some x->vals[i]?=some u->IB w u x
theorem NMl.open{w:World}{v:Value}{xs:List Nat}(h:NMl w v xs):∃a cap,v= .slice a xs.length cap/\xs.length<=cap/\cap<=maxLen/\
  (0<xs.length->∃b o,a=some ⟨b,o,none⟩/\∀(i x:Nat),xs[i]?=some x->∃u,w.cell? ⟨b,o+i,none⟩=some u/\IB w u x):=by
 obtain⟨vals,⟨h1,a,cap,h2,h3,h4,h5⟩,h6⟩:=h;refine⟨a,cap,h2,h3,h4,fun hn=>?_⟩;obtain⟨b,o,h7,h8⟩:=h5 hn;refine⟨b,o,h7,fun i x hx=>?_⟩;have hi:=(List.getElem?_eq_some_iff.1 hx).1;have hu:vals[i]?=some vals[i]:=List.getElem?_eq_getElem ac;exact⟨_,h8 i _ hu,h6 i x _ hx hu⟩
def Jw:List Nat->Nat:=fun xs=>xs.foldl (·* ·) 1
theorem Ks{xs:List Nat}{k x:Nat}(h:xs[k]?=some x):Jw (xs.take (k+1))=Jw (xs.take k)*x:=by
 unfold Jw;rw[List.take_add_one,h,List.foldl_append];rfl
theorem VI(w:World)(xs:List Nat)(v:Value)(hv:NMl w v xs)(aM:∀x∈xs,Dl x)(hp:∀k,k<=xs.length->Dl (Jw (xs.take k))):
  Calls Tryz.prog 41 #[v] w fun r w'=>(∃u,r= .returned u/\IB w' u (Jw xs))/\Ex w w':=by
 obtain⟨a,cap,rfl,s1,s2,s3⟩:=hv.open;unfold maxLen at s2;have S3:=Aa s3;have aT:=Aa aM;have HP:=Aa hp;clear hv s3 aM hp;have ea:=(Ex.refl w).alloc (.cells #[.int .u32 1] 91);have q0:(w.alloc (.cells #[.int .u32 1] 91)).cell? ⟨w.heap.size,0,none⟩=some (.int .u32 1):=ag;have H1:=Aa (show IB (w.alloc (.cells #[.int .u32 1] 91)) (.slice (some ⟨w.heap.size,0,none⟩) 1 1) 1 from⟨1,_,W5,Z8,NL.mk (Nat.le_refl _) ai fun _=>⟨_,0,rfl,fun j hj=>by
  obtain rfl:j=0:=ac;exact q0⟩⟩)
 have EA:=Aa ea;clear ea q0;go_enter Tryz.func41,Tryz.ntmps41
 go_wp2_with fail
 go_loopw [3,9] (fun p' k' wr=>∃(k:Nat),k<=xs.length/\k'= .int .i64 k/\Hia (IB wr p' (Jw (xs.take k)))/\Hia (Ex w wr)) (fun _ k' _=>xs.length-(intOf k').toNat)
 case atStart=>exact⟨0,ac,rfl,H1,EA⟩
 case round=>
  clear H1 EA;obtain⟨k,hk,rfl,hn,aF⟩:=hrel;have aV:=Aa (HP.o k hk);obtain⟨n,f,aE,aD,aC⟩:=hn.o;have hn1:=aV.o.len aE aD;obtain⟨pa,pc,rfl,_,_,_⟩:=aC.open;by_cases hkn:k<xs.length
  .obtain⟨x,hx⟩:∃x,xs[k]?=some x:=⟨_,List.getElem?_eq_getElem hkn⟩;obtain⟨b,o,rfl,hc⟩:=S3.o ac;obtain⟨u,hu,aR⟩:=hc k x hx;have c1:=aF.o.cell hu;obtain⟨m,g,aJ,aI,aH⟩:=aR;have hm1:=(aT.o x (List.mem_of_getElem? hx)).len aJ aI;have i1:(0:Int)<=(k:Int):=by omega
   have i2:(k:Int)<(xs.length:Int):=ac;obtain⟨aW,aU,aX,aZ,aY⟩:=Of (Gi _ m g u (aH.ex aF.o) aJ.lt) (fun u' m' (aN:m'<=m) (aS:Jn m' g) (h:NL _ u' m' g)=>TA _ n m' f g _ _ aC h aE.lt aS.lt ac ac) (Ks hx) aD aI;obtain⟨ya,yc,rfl,_,_,_⟩:=aH.open;clear hc hu hx aE aD aC aJ aI aH;go_wp2_with (first|(go_at_call 87;refine aW.o.mono ?_;rintro e w5⟨⟨u,m',rfl,aN,aP,aO,aG⟩,rfl⟩;obtain⟨oa,oc,rfl,_,_,_⟩:=aG.open;have aQ:=Aa (aU.o _ m' aN aP aG);rw[aZ.o,aO,aY.o]at aQ;clear aP aO aG)|(go_at_call 95;refine aQ.o.mono ?_;rintro e w6⟨⟨u6,rfl,aA⟩,aB⟩;obtain⟨_,_,_,_,h6⟩:=id aA;obtain⟨oa,oc,rfl,_,_,_⟩:=h6.open;have aL:=Aa aA;have aK:=Aa (aF.o.trans aB);clear aA h6 aB))
   go_roundw
   case rel=>exact⟨k+1,ac,by go_num,by rw[aX.o];exact aL,aK⟩
   case measure=>simp[intOf];omega
  .obtain rfl:k=xs.length:=by omega
   have hT:=Qm wr n f _ aC aE.lt ac;rw[aD,List.take_length]at hT;have HT:=Aa hT;clear hT aE aD aC;go_wp2_with (go_at_call 96;refine HT.o.mono ?_;rintro e w6⟨⟨u6,rfl,aA⟩,aB⟩;obtain⟨_,_,_,_,h6⟩:=id aA;obtain⟨oa,oc,rfl,_,_,_⟩:=h6.open;have aL:=Aa aA;have aK:=Aa (aF.o.trans aB);clear aA h6 aB)
   go_ret;exact⟨⟨_,rfl,aL.o⟩,aK.o⟩
theorem zcC{P:Prop}(h:P:=by
 go_enter Tryz.func110,Tryz.ntmps110
 exact zdh):P:=h
theorem Pt(w:World)(n i:Nat)(f:Nat->Nat)(v:Value)(hv:NL w v n f)(aA:∀k,k<n->f k<BH)(hi:i<=10000):
  Calls Tryz.prog 110 #[v,.int .i64 i] w fun r w'=>r= .returned (.int .u64 ((if i<n then f i else 0:Nat):Int))/\w'=w:=by
 obtain⟨a,cap,rfl,s1,s2,s3⟩:=hv.open;have S3:=Aa s3;unfold maxLen at s2;clear hv s3;by_cases hin:i<n
 .obtain⟨b,o,rfl,hc⟩:=S3.o ac;have c1:=hc i hin;rw[if_pos hin];have hb:f i<4294967296:=aA i hin;have e1:IntKind.u64.wrap (f i:Int)=(f i:Int):=by rw[IntKind.wrap_u64];omega
  have i1:(0:Int)<=(i:Int):=ac;have i2:(i:Int)<(n:Int):=ac;clear hc aA hb;exact zcC
 .rw[if_neg hin];have i2:¬(i:Int)<(n:Int):=by omega
  clear aA;exact zcC
def Pv(n:Nat)(f:Nat->Nat)(i:Nat):Nat:=if i<n then f i else 0
theorem VX{n m:Nat}(f:Nat->Nat)(h:n<=m):vS (Pv n f) m=vS f n:=by
 rw[Nh h fun k h1 _=>by unfold Pv;rw[if_neg ac]];exact Hx fun k hk=>by unfold Pv;rw[if_pos hk]
theorem Vq(w:World)(x y:Nat)(u v:Value)(hu:IB w u x)(hv:IB w v y)(hx:Dl x)(hy:Dl y):
  Calls Tryz.prog 50 #[u,v] w fun r w'=>(∃z:Int,r= .returned (.int .i64 z)/\(z=0↔x=y))/\w'=w:=by
 obtain⟨n,f,aE,aD,aI⟩:=hu;obtain⟨m,g,aC,aB,aH⟩:=hv;have hn:=hx.len aE aD;have hm:=hy.len aC aB;have aP:=Aa (fun i (hi:i<=10000)=>Pt w n i f u aI aE.lt hi);have aO:=Aa (fun i (hi:i<=10000)=>Pt w m i g v aH aC.lt hi);have aQ:=Aa (show(∀i,Pv n f i=Pv m g i)->x=y from fun h=>by
  rw[<-aD,<-aB,<-VX f (Nat.le_max_left n m),<-VX g (Nat.le_max_right n m)];exact Hx fun k _=>h k)
 have aN:=Aa (show ∀i,Pv n f i≠Pv m g i->¬x=y from fun i h e=>by
  obtain⟨h1,h2⟩:=aE.uniq aC (by rw[aD,aB,e]);subst h1;refine h ?_;unfold Pv;split
  .exact h2 i ac
  .rfl)
 obtain⟨ua,uc,rfl,_,_,_⟩:=aI.open;obtain⟨va,vc,rfl,_,_,_⟩:=aH.open;clear aE aD aI aC aB aH hx hy;have aR:=Aa (show(∀i,i<n∨i<m->Pv n f i=Pv m g i)->x=y from fun h=>aQ.o fun i=>by
  by_cases hi:i<n∨i<m
  .exact h i hi
  .unfold Pv;rw[if_neg ac,if_neg ac])
 go_enter Tryz.func50,Tryz.ntmps50
 go_wp2_with fail
 all_goals
  go_loopw [5] (fun i' wr=>∃i:Nat,i<=1000/\i'= .int .i64 ((i:Int)-1)/\wr=w/\Hia (∀k,i<=k->k<n∨k<m->Pv n f k=Pv m g k)) (fun i' _=>((intOf i')+1).toNat)
  case atStart=>first|exact⟨n,ac,rfl,rfl,Aa (fun k h1 h2=>ac)⟩|exact⟨m,ac,rfl,rfl,Aa (fun k h1 h2=>ac)⟩|exact⟨max n m,ac,congrArg (Value.int .i64) (ac),rfl,Aa (fun k h1 h2=>ac)⟩
  case round=>
   obtain⟨i,hi,rfl,rfl,aA⟩:=hrel
   cases i with
   | zero=>
    have HE:=Aa (aR.o fun k hk=>aA.o k (Nat.zero_le _) hk);go_wp2_with fail
    go_ret;exact⟨⟨0,rfl,fun _=>HE.o,fun _=>rfl⟩,rfl⟩
   | succ k=>
    have aK:((k+1:Nat):Int)-1=(k:Int):=ac;rw[aK];have i1:(0:Int)<=(k:Int):=ac;have L1:=Aa (aP.o k ac);have L2:=Aa (aO.o k ac);have aJ:=Aa (aN.o k);obtain⟨p,hp⟩:=nA ((if k<n then f k else 0));obtain⟨q,hq⟩:=nA ((if k<m then g k else 0));rw[hp]at L1;rw[hq]at L2;have aG:Pv n f k=p:=hp;have aF:Pv m g k=q:=hq;rw[aG,aF]at aJ;have aL:=Aa (show p=q->∀j,k<=j->j<n∨j<m->Pv n f j=Pv m g j from fun e j h1 h2=>by
     by_cases e2:j=k
     .subst e2;rw[aG,aF,e]
     .exact aA.o j ac h2)
    clear hp hq aG aF aA;rcases Nat.lt_trichotomy p q with h|h|h
    .have HN:=Aa (aJ.o ac);have h1:(p:Int)<(q:Int):=by omega
     go_wp2_with (go_at_call 110;first|(with_reducible refine L1.o.mono ?_;rintro e w2⟨rfl,rfl⟩)|(with_reducible refine L2.o.mono ?_;rintro e w2⟨rfl,rfl⟩))
     go_ret;exact⟨⟨-1,rfl,fun h=>ac,fun h=>absurd h HN.o⟩,rfl⟩
    .subst h;have aM:=Aa (aL.o rfl);have h1:¬(p:Int)<(p:Int):=by omega
     go_wp2_with (go_at_call 110;first|(with_reducible refine L1.o.mono ?_;rintro e w2⟨rfl,rfl⟩)|(with_reducible refine L2.o.mono ?_;rintro e w2⟨rfl,rfl⟩))
     go_roundw
     case rel=>exact⟨k,ac,by go_num,trivial,aM⟩
     case measure=>simp[intOf]
    .have HN:=Aa (aJ.o ac);have h1:¬(p:Int)<(q:Int):=by omega
     have h2:(q:Int)<(p:Int):=ac;go_wp2_with (go_at_call 110;first|(with_reducible refine L1.o.mono ?_;rintro e w2⟨rfl,rfl⟩)|(with_reducible refine L2.o.mono ?_;rintro e w2⟨rfl,rfl⟩))
     go_ret;exact⟨⟨1,rfl,fun h=>ac,fun h=>absurd h HN.o⟩,rfl⟩
theorem KW{q:List Nat}{j y:Nat}(h:q[j]?=some y):(CO q).getD j 0=(y:Int):=by
 rw[List.getD_eq_getElem?_getD,SR h];rfl
theorem YX{q:List Nat}{y:Nat}(h:y∈q):∃i:Nat,q[i]?=some y/\Cu (fun j=>(y:Int)==(CO q).getD j 0) (CO q).length=i:=by
 rw[Ci];have aA:∀k:Nat,(∃i:Nat,i<k/\q[i]?=some y/\∀j:Nat,j<i->q[j]?≠some y)∨∀j:Nat,j<k->q[j]?≠some y:=by
  intro k
  induction k with
  | zero=>exact .inr fun j h=>ac
  | succ k ih=>
   rcases ih with⟨i,h1,h2,h3⟩|h1
   .exact .inl ⟨i,ac,h2,h3⟩
   .by_cases e:q[k]?=some y
    .exact .inl ⟨k,ac,e,h1⟩
    .exact .inr fun j hj=>by
      by_cases e2:j=k
      .subst e2;exact e
      .exact h1 j ac
 rcases aA q.length with⟨i,h1,h2,h3⟩|h1
 .refine⟨i,h2,Cx h1 (by rw[KW h2];simp) fun j hj=>?_⟩;have hq:q[j]?=some (q[j]'ac):=List.getElem?_eq_getElem _;rw[KW hq];have:q[j]'ac≠y:=fun e=>h3 j hj (by rw[hq,e]);simp;omega
 .obtain⟨j,hj,e⟩:=List.getElem_of_mem h;exact absurd ar (h1 j hj)
theorem Wl{q:List Nat}{y:Nat}(h:¬y∈q):Cu (fun j=>(y:Int)==(CO q).getD j 0) (CO q).length=-1:=by
 rw[Ci];refine BT fun j hj=>?_;have hq:q[j]?=some (q[j]'ac):=List.getElem?_eq_getElem _;rw[KW hq];have:q[j]'ac≠y:=fun e=>h (by rw[<-e];exact List.getElem_mem hj);simp;omega
def IJ(L:List Lv):Nat:=Jw (L.map fun l=>l.orb.length)
theorem Mo{L:List Lv}{k:Nat}{l:Lv}(h:L[k]?=some l):IJ (L.take (k+1))=IJ (L.take k)*l.orb.length:=by
 unfold IJ;rw[List.map_take,List.map_take];exact Ks (by rw[List.getElem?_map,h];rfl)
theorem Rm{n:Nat}{S:List (Nat->Nat)}{bs:List Nat}{l:Lv}(h:l∈bs.map (Fp n S)):l.orb.length<=n:=by
 obtain⟨b,_,rfl⟩:=List.mem_map.1 h;show(CO (Bn S b n)).length<=n
 rw[Ci];exact Fm S b n
theorem QJ{L:List Lv}(h:∀l∈L,l.orb.length<=64):∀k,k<=64->Dl (IJ (L.take k)):=by
 have aA:∀k,IJ (L.take k)<=64^k:=by
  intro k
  induction k with
  | zero=>exact Nat.le_refl _
  | succ k ih=>
   by_cases hk:k<L.length
   .have hl:L[k]?=some (L[k]'hk):=List.getElem?_eq_getElem hk;rw[Mo hl,Nat.pow_succ];exact Nat.mul_le_mul ih (h _ (List.getElem_mem hk))
   .rw[List.take_of_length_le ac]at ih ⊢;exact Nat.le_trans ih (Nat.pow_le_pow_right ac ac)
 intro k hk;have h1:(64:Nat)^k<=64^64:=Nat.pow_le_pow_right ac hk;have h2:(64:Nat)^64=BH^12:=ae;have h3:BH^12<BH^200:=(Nat.pow_lt_pow_iff_right (by decide:1<BH)).2 ac;have:=aA k;unfold Dl;omega
def SizR(d:Int)(L:List Lv)(r:Ending)(w':World):Prop:=(Be d L≠0/\r= .returned (.tuple #[.slice none 0 0,.int .i64 (Be d L)]))∨(Be d L=0/\∃v,r= .returned (.tuple #[v,.int .i64 0])/\IB w' v (IJ L))
theorem nml2{w:World}{u v:Value}{x y:Nat}(hu:IB w u x)(hv:IB w v y)(t:TypeId):NMl (w.alloc (.cells #[u,v] t)) (.slice (some ⟨w.heap.size,0,none⟩) 2 2) [x,y]:=by
 have ea:Ex w (w.alloc (.cells #[u,v] t)):=(Ex.refl _).alloc _;refine⟨[u,v],⟨rfl,_,2,rfl,Nat.le_refl _,by unfold maxLen;omega,fun _=>⟨_,0,rfl,fun j z hz=>?_⟩⟩,fun i z s h1 h2=>?_⟩
 .match j,hz with
  | 0,hz=>simp at hz;subst hz;simp
  | 1,hz=>simp at hz;subst hz;simp
  | j+2,hz=>simp at hz
 .match i,h1,h2 with
  | 0,h1,h2=>simp at h1 h2;subst h1 h2;exact hu.ex ea
  | 1,h1,h2=>simp at h1 h2;subst h1 h2;exact hv.ex ea
  | i+2,h1,h2=>simp at h1
theorem nMul2{w:World}{u v:Value}{x y:Nat}(hu:IB w u x)(hv:IB w v y)(hx:Dl x)(hy:Dl y)(aA:Dl (x*y))(t:TypeId):
  Calls Tryz.prog 41 #[.slice (some ⟨w.heap.size,0,none⟩) 2 2] (w.alloc (.cells #[u,v] t)) fun r w'=>(∃u,r= .returned u/\IB w' u (x*y))/\Ex w w':=by
 have h:=VI _ _ _ (nml2 hu hv t) (fun z hz=>by
  simp at hz;rcases hz with e|e
  .rw[e];exact hx
  .rw[e];exact hy) (fun j hj=>by
  match j,hj with
  | 0,_=>exact GD (by show(1:Nat)<_;omega)
  | 1,_=>show Dl (1*x);rw[Nat.one_mul];exact hx
  | 2,_=>show Dl (1*x*y);rw[Nat.one_mul];exact aA)
 have e:Jw [x,y]=x*y:=by show 1*x*y=_;rw[Nat.one_mul]
 rw[e]at h;exact h.mono fun r w' ⟨h1,h2⟩=>⟨h1,((Ex.refl w).alloc _).trans h2⟩
theorem zbK{P:Prop}(h:P:=by
 unfold DC;have:=List.length_filter_le (fun b=>decide (1<(Bn S b n).length)) (List.range n);rw[List.length_range]at this;exact this):P:=h
theorem Qo(w:World)(d:Int)(L:List Lv)(lv:Value)(hL:Er w lv L)(hg:(AT L).length<=1000):
  Calls Tryz.prog 35 #[.agg #[.int .i64 d,lv]] w fun r w'=>SizR d L r w'/\Ex w w':=by
 obtain⟨d0,d1,e0⟩:=BM w d lv;obtain⟨za,zc,rfl,z1,z2,z3⟩:=(hL.ex e0).open3;unfold maxLen at z2;have bF:=Aa (EL _ d L _ (hL.ex e0) hg);have Z3:=Aa z3;clear z3 hL;go_enter Tryz.func35,Tryz.ntmps35
 go_wp2_with fail
 obtain⟨q,hq⟩:=nA w.heap.size;rw[hq]at d0 d1
 try simp only[hq]
 clear hq;generalize w.alloc (.cells #[.int .i64 d,.slice za L.length zc] 43)=w1 at *;have aR:=Aa e0;clear e0;refine bF.o.mono ?_;rintro e w2⟨rfl,aA⟩;have d1:=aA.cell d1;have aH:=Aa aA;obtain⟨E,hE⟩:=nA (Be d L);rw[hE];by_cases h0:E=0
 .subst h0;obtain⟨n,rfl,hn1,hn2,S,hS,aS,aG⟩:=JZ hE;have aB:∀l∈L,l.orb.length<=n:=fun l hl=>Rm (aG ▸ hl);have hll:L.length<=n:=by
   rw[aG,List.length_map];exact zbK
  obtain⟨bA,aQ,D1,HE,bB⟩:=Of aB (QJ (L:=L) fun l hl=>by have:=aB l hl;omega) d1 hE (Xj w2 1 ac);clear aA hE aB aG aS hS d0;go_wp2_with (go_at_call 42;refine bB.o.mono ?_;rintro e w3⟨⟨u,rfl,hu⟩,aD⟩;have HU:=Aa hu;have aO:=Aa aD;have d1:=aD.cell D1.o;clear hu aD)
  clear d1
  go_loopw [5,17] (fun p' k' wr=>∃(k:Nat),k<=L.length/\k'= .int .i64 k/\Hia (IB wr p' (IJ (L.take k)))/\Hia (Ex w3 wr)) (fun _ k' _=>L.length-(intOf k').toNat)
  case atStart=>exact⟨0,ac,rfl,HU,Aa (Ex.refl _)⟩
  case round=>
   clear HU;obtain⟨k,hk,rfl,hn,aF⟩:=hrel;obtain⟨pn,pf,_,_,aN⟩:=id hn.o;obtain⟨pa,pc,rfl,_,_,_⟩:=aN.open;clear aN;by_cases hkl:k<L.length
   .obtain⟨l,hl⟩:∃l,L[k]?=some l:=⟨_,List.getElem?_eq_getElem hkl⟩;obtain⟨zb,zo,rfl,aK⟩:=Z3.o ac;have aJ:=Aa (aH.o.trans (aO.o.trans aF.o));obtain⟨u,r,c0,c1,c2,hu,hr⟩:=aK k l hl;have c0:=aJ.o.cell c0;have c1:=aJ.o.cell c1;have c2:=aJ.o.cell c2;obtain⟨oa,oc,rfl,_,_,_⟩:=hu.open;obtain⟨ra,rc,rfl,_,_,_⟩:=hr.open;have i1:(0:Int)<=(k:Int):=by omega
    have i2:(k:Int)<(L.length:Int):=ac;have aB:=bA.o l (List.mem_of_getElem? hl);obtain⟨p,hp⟩:=nA l.pt;rw[hp]at c0;obtain⟨b0,b1,b2,eb⟩:=Ea wr p (.slice oa l.orb.length oc) (.slice ra l.reps.length rc);have e1:IntKind.u64.wrap (l.orb.length:Int)=(l.orb.length:Int):=bu;obtain⟨aI,HN,bE,aP,aY,aZ,aX⟩:=OK (Xj (wr.alloc (.cells #[.int .i64 p,.slice oa l.orb.length oc,.slice ra l.reps.length rc] 90)) l.orb.length ac) (hn.o.ex eb) eb (Mo hl) (aQ.o (k+1) ac) (aQ.o k ac) (GD (x:=l.orb.length) ac);clear aK hl hp hu hr eb hn;go_wp2_with (first|(go_at_call 42;refine aI.o.mono ?_;rintro e w5⟨⟨u5,rfl,aE⟩,aC⟩;obtain⟨_,_,_,_,h5⟩:=id aE;obtain⟨ya,yc,rfl,_,_,_⟩:=h5.open;have bC:=Aa (nMul2 (HN.o.ex aC) aE aZ.o aX.o (by rw[<-aP.o];exact aY.o) 56);have aU:=Aa aC;clear h5 aE aC)|(go_at_call 41;refine bC.o.mono ?_;rintro e w6⟨⟨u6,rfl,aM⟩,aL⟩;have aW:=Aa aM;have aT:=Aa aL;clear aM aL))
    have bD:=Aa (aF.o.trans (bE.o.trans (aU.o.trans aT.o)));have aV:=Aa (show IB w6 u6 (IJ (L.take (k+1))) from by
     rw[aP.o];exact aW.o)
    go_roundw
    case rel=>exact⟨k+1,ac,by go_num,aV,bD⟩
    case measure=>simp[intOf];omega
   .obtain rfl:k=L.length:=by omega
    have HN:=Aa (show IB wr (.slice pa pn pc) (IJ L) from by have:=hn.o;rwa[List.take_length]at this);go_wp2_with fail
    go_ret2;exact⟨.inr ⟨HE.o,_,rfl,HN.o⟩,aR.o.trans (aH.o.trans (aO.o.trans aF.o))⟩
 .have hb:(E !=0)=true:=by simpa using h0
  have HR:=Aa (show Be d L≠0 from by rw[hE];exact h0);have HE:=Aa hE;clear h0 hE aA;go_wp2_with fail
  go_ret2;exact⟨.inl ⟨HR.o,ret_ve HE.o.symm⟩,aR.o.trans aH.o⟩
theorem Pf{P:Program}{f:FuncId}{aA:Array Value}{w:World}{n:Nat}{v:Value}
  (h:Calls P f aA (w.drewN n) fun e w'=>e= .returned v/\w.drewN n=w'):Calls P f aA (w.drewN n) fun e w''=>e= .returned v/\∃m,w''=w.drewN m:=
 h.mono fun _ _ ⟨he,hm⟩=>⟨he,n,hm.symm⟩
noncomputable def Et(d:Int)(L:List Lv)(p:List Int):Int:=if Be d L≠0 then Be d L else if BN p≠0 then BN p else if (p.length:Int)≠d then 10 else 0
noncomputable def F8(d:Int)(L:List Lv)(p:List Int):List Int × Nat × Int:=if Et d L p≠0 then([],0,Et d L p) else
 (li d.toNat (Ec d.toNat ((AT L).map CG) (DC d.toNat ((AT L).map CG)) (CG p) 0).1,(Ec d.toNat ((AT L).map CG) (DC d.toNat ((AT L).map CG)) (CG p) 0).2,0)
def SftR(d:Int)(L:List Lv)(p:List Int)(r:Ending)(w':World):Prop:=∃v,r= .returned (.tuple #[v,.int .i64 ((F8 d L p).2.1:Int),.int .i64 (F8 d L p).2.2])/\Aj w' v (F8 d L p).1
theorem H4{d:Int}{L:List Lv}{p l:List Int}{k:Nat}{e:Int}{v:Value}{w':World}(h:F8 d L p=(l,k,e))(hv:Aj w' v l):SftR d L p (.returned (.tuple #[v,.int .i64 (k:Int),.int .i64 e])) w':=⟨v,by rw[h],by rw[h];exact hv⟩
theorem bf{P:Prop}(h:P:=by simp[results,Tryz.results100,go_sem]):P:=h
theorem Xg(w:World)(d:Int)(L:List Lv)(lv:Value)(hL:Er w lv L)(hg:(AT L).length<=1000)(p:List Int)(pv:Value)(hp:Aj w pv p):
  Calls Tryz.prog 100 #[.agg #[.int .i64 d,lv],pv] w fun r w'=>SftR d L p r w'/\Ex w w':=by
 obtain⟨d0,d1,e0⟩:=BM w d lv;obtain⟨za,zc,rfl,z1,z2,z3⟩:=(hL.ex e0).open3;unfold maxLen at z2;have cM:=Aa (EL _ d L _ (hL.ex e0) hg);have Z3:=Aa z3;have HP:=Aa (hp.ex e0);obtain⟨pa,pc,rfl,_,_,_⟩:=hp.open;clear z3 hL hp;go_enter Tryz.func100,Tryz.ntmps100
 go_wp2_with fail
 obtain⟨q,hq⟩:=nA w.heap.size;rw[hq]at d0 d1
 try simp only[hq]
 clear hq;generalize w.alloc (.cells #[.int .i64 d,.slice za L.length zc] 43)=w1 at *;have aM:=Aa e0;clear e0;refine cM.o.mono ?_;rintro e w2⟨rfl,aH⟩;have d1:=aH.cell d1;have d0:=aH.cell d0;have aG:=Aa aH;obtain⟨E,hE⟩:=nA (Be d L);rw[hE];by_cases h0:E=0
 .subst h0;have aJ:=Aa (Jm w2 p _ (HP.o.ex aH));obtain⟨F,hF⟩:=nA (BN p);rw[hF]at aJ;have D0:=Aa d0;have D1:=Aa d1;clear aH;by_cases h1:F=0
  .subst h1;obtain⟨n,f,hn1,hn2,hpl,aS,rfl⟩:=Ib hF;by_cases h2:((li n f).length:Int)=d
   .have bZ:(n:Int)=d:=by rw[<-h2,Co]
    subst bZ;obtain⟨n',bK,_,_,S,hS,aD,bQ⟩:=JZ hE;have bK:n'=n:=ac;subst bK;have bF:((AT L).map CG)=S:=by rw[aD];exact Ei hS
    have bO:CG (li n' f)=f:=Hm aS;have aW:=Aa (show ∀(g:Nat->Nat) (k:Nat),Ec n' S (DC n' S) f 0=(g,k)->F8 n' L (li n' f)=(li n' g,k,0) from fun g k h=>by
     have:Et n' L (li n' f)=0:=by unfold Et;rw[hE,if_neg ae,hF,if_neg ae,if_neg el]
     unfold F8;rw[this,if_neg ae,bF,bO];show(li n' (Ec n' S (DC n' S) f 0).1,(Ec n' S (DC n' S) f 0).2,0)=_
     rw[h])
    have HS:=Aa hS;have aX:=Aa bQ;have cL:=Aa aS;obtain⟨pt,aC⟩:=nA (DC n' S);have cG:=Aa (show ∀b∈pt,b<n' from fun b hb=>by
     rw[<-aC]at hb;unfold DC at hb;exact List.mem_range.1 (List.mem_filter.1 hb).1)
    rw[aC]at aW aX;have bL:L.length=pt.length:=by rw[aX.o,List.length_map]
    have hptl:pt.length<=n':=by
     rw[<-aC];unfold DC;have:=List.length_filter_le (fun b=>decide (1<(Bn S b n').length)) (List.range n');rw[List.length_range]at this;exact this
    have bP:=HP.o.ex aG.o;have bY:=Aa (fun w' (hx:Ex w2 w')=>Jl w' _ _ (bP.ex hx) el el);have bX:=Aa bL;rw[Co]at bY h2;have aK:(li n' f).length=n':=Co _ _;rw[aK]at aJ ⊢;clear hE hF aD bQ bF bO hS aS aC bL bP h2 aK;go_wp2_with (first|(go_at_call 57;refine aJ.o.mono ?_;rintro e w3⟨rfl,aA⟩;have aF:=Aa aA;have d0:=aA.cell D0.o;clear aA)|(go_at_call 154;refine(bY.o _ aF.o).mono ?_;rintro e w4⟨cg,cc,rfl,bJ,aQ⟩;have bV:=Aa bJ;have aV:=Aa (aF.o.trans aQ);have d1:=(aF.o.trans aQ).cell D1.o;clear bJ aQ))
    have D4:=Aa d1;clear d0 d1;have bU:=Aa (show Aj w4 (.slice (some ⟨cg,0,none⟩) n' cc) (li n' f) from by
     have e:il n' (fun j=>(li n' f).getD j 0)=li n' f:=by
      unfold li;exact PH fun j hj=>YW hj _
     have:=bV.o.isl
     rwa[e]at this)
    go_loopw [8,35] (fun o' k' wr=>∃(k:Nat) (g:Nat->Nat),k<=L.length/\k'= .int .i64 k/\Hia (Bd n' g)/\Hia (Aj wr o' (li n' g))/\Hia (Ec n' S pt f 0=Ec n' S (pt.drop k) g k)/\Hia (Ex w4 wr)) (fun _ k' _=>L.length-(intOf k').toNat)
    case atStart=>exact⟨0,f,ac,rfl,cL,bU,Aa rfl,Aa (Ex.refl _)⟩
    case round=>
     clear bU bV;obtain⟨k,g,hk,rfl,bN,aD,aO,aL⟩:=hrel;obtain⟨oa,oc,rfl,_,_,_⟩:=DQ aD.o;obtain⟨ob,oo,rfl,_,bG⟩:=Eo aD.o ac;by_cases hkl:k<L.length
     .obtain⟨b,hb⟩:∃b,pt[k]?=some b:=⟨_,List.getElem?_eq_getElem (by rw[<-bX.o];exact hkl)⟩;have cB:=cG.o b (List.mem_of_getElem? hb);have hl:L[k]?=some (Fp n' S b):=by rw[aX.o,List.getElem?_map,hb];rfl
      have aT:pt.drop k=b :: pt.drop (k+1):=by
       have h1:=(List.getElem?_eq_some_iff.1 hb).1;rw[List.drop_eq_getElem_cons h1];have h2:=(List.getElem?_eq_some_iff.1 hb).2;rw[h2]
      have HRE:=Aa (aO.o.trans (by rw[aT]));obtain⟨zb,zo,rfl,aY⟩:=Z3.o ac;obtain⟨u,r,c0,c1,c2,hu,hr⟩:=aY k _ hl;have aN:=Aa (aG.o.trans (aV.o.trans aL.o));have c0:wr.cell? ⟨zb,zo+k*3,none⟩=some (.int .i64 (b:Int)):=aN.o.cell c0;have c1:=aN.o.cell c1;have c2:=aN.o.cell c2;have hu:Aj w1 u (CO (Bn S b n')):=hu;have hr:BY w1 r ((Bn S b n').map fun x=>li n' (Fa n' S b x)):=hr;have bW:=Aa (fun y=>C8 (S:=S) (b:=b) (m:=n') (x:=y));obtain⟨Q,hQ⟩:=nA (Bn S b n');obtain⟨R,hR⟩:∃R,(Q.map fun x=>li n' (Fa n' S b x))=R:=⟨_,rfl⟩;rw[hQ]at hu hr bW;rw[hR]at hr;have cF:=Aa hR;have bC:Ec n' S (b :: pt.drop (k+1)) g k=if g b∈Q then Ec n' S (pt.drop (k+1)) (Aq g (A7 n' (Fa n' S b (g b)))) (k+1) else(g,k):=by rw[<-hQ];rfl
      have aI:=Aa (aO.o.trans ((by rw[aT]:Ec n' S (pt.drop k) g k=Ec n' S (b :: pt.drop (k+1)) g k).trans bC));have HU:=Aa (hu.ex aN.o);have cE:=Aa (hr.ex aN.o);obtain⟨ua,uc,rfl,_,_,_⟩:=hu.open;obtain⟨ra,rc,rfl,_,_,_⟩:=hr.open;have co:=bG b cB;have i1:(0:Int)<=(k:Int):=by omega
      have i2:(k:Int)<(L.length:Int):=ac;have i3:(0:Int)<=(b:Int):=ac;have i4:(b:Int)<(n':Int):=ac;obtain⟨y,hy⟩:=nA (g b);rw[hy]at co aI;obtain⟨b0,b1,b2,eb⟩:=Ea wr (b:Int) (.slice ua (CO Q).length uc) (.slice ra R.length rc);have co:=eb.cell co;have aB:=fun q'=>M7 ((wr.alloc (.cells #[.int .i64 (b:Int),.slice ua (CO Q).length uc,.slice ra R.length rc] 90)).drewN q') (CO Q) _ (y:Int) ((HU.o.ex eb).ex ((Ex.refl _).drewN q'));have HYE:=Aa hy;have EB:=Aa eb;clear aT hl aY hb hu hr hQ hR bC bG eb hy aO;by_cases hm:y∈Q
      .obtain⟨i,hi,bM⟩:=YX hm;rw[bM]at aB;have aB:=Aa aB;rw[if_pos hm]at aI;obtain⟨x,hx⟩:=nA (Fa n' S b y);have aE:=(DO HS.o ((bW.o y).1 hm).2).gn.isP HS.o (n:=n');rw[hx]at aI aE;have bR:=Aa aE;have aU:R[i]?=some (li n' x):=by rw[<-cF.o,List.getElem?_map,hi,<-hx];rfl
       have cA:=(List.getElem?_eq_some_iff.1 aU).1;obtain⟨_,_,er,_,_,bE⟩:=cE.o.open;injection er with er1 er2 er3;subst er1 er3;obtain⟨rb,ro,rfl,bD⟩:=bE ac;obtain⟨v,bB,aR⟩:=bD i _ aU;have bT:=Aa (aR.ex EB.o);have cv:=EB.o.cell bB;obtain⟨va,vc,rfl,_,_,_⟩:=DQ aR;have i5:(0:Int)<=(i:Int):=br;have i6:(i:Int)<(R.length:Int):=ac;clear hm hi bM hx aE aU er2 bE bD bB aR cA;go_wp2_with fail
       obtain⟨W,hW⟩:=nA ((wr.alloc (.cells #[.int .i64 (b:Int),.slice ua (CO Q).length uc,.slice (some ⟨rb,ro,none⟩) R.length rc] 90)));rw[hW]at aB b0 b1 b2 co EB bT cv ⊢;clear hW
       go_quiet ((go_at_call 155;exact Pf (aB.o _)))
       have cJ:=Aa (fun q'=>Gq (W.drewN q') n' x _ (bT.o.ex ((Ex.refl W).drewN q')) ac bR.o);have cK:=Aa (bN.o.comp bR.o.inv);go_wp2_with (first|(go_at_call 109;refine(cJ.o _).mono ?_;rintro e w6⟨ig,rfl,bI,bA⟩;have cI:=Aa bI.li;have bS:=Aa ((EB.o.drewN _).trans bA);clear bI bA)|(go_at_call 108;refine(Fe w6 n' g (A7 n' x) _ _ (aD.o.ex bS.o) cI.o ac bN.o.lt).mono ?_;rintro e w7⟨tg,rfl,bH,aZ⟩;have cH:=Aa bH.li;have cD:=Aa (bS.o.trans aZ);clear bH aZ))
       go_roundw
       case rel=>exact⟨k+1,_,ac,by go_num,cK,cH,aI,Aa (aL.o.trans cD.o)⟩
       case measure=>simp[intOf];omega
      .rw[Wl hm]at aB;have aB:=Aa aB;rw[if_neg hm]at aI;have HR:=Aa (aW.o _ _ aI.o);clear hm;go_wp2_with fail
       obtain⟨W,hW⟩:=nA ((wr.alloc (.cells #[.int .i64 (b:Int),.slice ua (CO Q).length uc,.slice ra R.length rc] 90)));rw[hW]at aB b0 b1 b2 co EB ⊢;clear hW
       go_quiet ((go_at_call 155;exact Pf (aB.o _)))
       go_wp2_with fail
       exact bodyPost_ret (v:= .tuple #[.slice (some ⟨ob,oo,none⟩) n' oc,.int .i64 (k:Nat),.int .i64 0]) bf rfl ⟨H4 HR.o (aD.o.ex (EB.o.drewN _)),aM.o.trans (aG.o.trans (aV.o.trans (aL.o.trans (EB.o.drewN _))))⟩
     .obtain rfl:k=L.length:=by omega
      have HR:=Aa (aW.o g L.length (aO.o.trans (by rw[bX.o,List.drop_length];rfl)));have d1:=(aL.o).cell D4.o;go_wp2_with fail
      go_quiet (fail)
      go_wp2_with fail
      exact bodyPost_ret (v:= .tuple #[.slice (some ⟨ob,oo,none⟩) n' oc,.int .i64 (L.length:Nat),.int .i64 0]) bf rfl ⟨H4 HR.o (aD.o.ex ((Ex.refl wr).drewN _)),aM.o.trans (aG.o.trans (aV.o.trans (aL.o.drewN _)))⟩
   .have aP:(li n f).length=n:=Co n f;rw[aP]at h2;have HR:=Aa (show F8 d L (li n f)=([],0,10) from by
     have:Et d L (li n f)=10:=by unfold Et;rw[hE,if_neg ae,hF,if_neg ae,if_pos (by rw[aP];exact h2)]
     unfold F8;rw[this];rfl)
    have hb:((n:Int) !=d)=true:=dw;rw[aP]at aJ ⊢;clear hE hF h2 aP;go_wp2_with (go_at_call 57;refine aJ.o.mono ?_;rintro e w3⟨rfl,aA⟩;have aF:=Aa aA;have d0:=aA.cell D0.o;clear aA)
    exact bodyPost_ret (v:= .tuple #[.slice none 0 0,.int .i64 (0:Nat),.int .i64 10]) bf rfl ⟨H4 HR.o (A6 _),aM.o.trans (aG.o.trans aF.o)⟩
  .have HR:=Aa (show F8 d L p=([],0,F) from by
    have:Et d L p=F:=by unfold Et;rw[hE,if_neg ae,hF,if_pos h1]
    unfold F8;rw[this,if_pos h1])
   have hb:(F !=0)=true:=bt;have cC:(F==0)=false:=bt;clear hE hF h1;go_wp2_with (go_at_call 57;refine aJ.o.mono ?_;rintro e w3⟨rfl,aA⟩;have aF:=Aa aA;have d0:=aA.cell D0.o;clear aA)
   exact bodyPost_ret (v:= .tuple #[.slice none 0 0,.int .i64 (0:Nat),.int .i64 F]) bf rfl ⟨H4 HR.o (A6 _),aM.o.trans (aG.o.trans aF.o)⟩
 .have HR:=Aa (show F8 d L p=([],0,E) from by
   have:Et d L p=E:=by unfold Et;rw[hE,if_pos h0]
   unfold F8;rw[this,if_pos h0])
  have hb:(E !=0)=true:=by simpa using h0
  have cC:(E==0)=false:=by simpa using h0
  clear h0 hE aH;go_wp2_with fail
  exact bodyPost_ret (v:= .tuple #[.slice none 0 0,.int .i64 (0:Nat),.int .i64 E]) bf rfl ⟨H4 HR.o (A6 _),aM.o.trans aG.o⟩
theorem QS{b c:Bool}{e f:Int}(h:b=c)(k:e=f):Ending.returned (.tuple #[.bool b,.int .i64 e])= .returned (.tuple #[.bool c,.int .i64 f]):=by rw[h,k]
theorem U2{d:Int}{L:List Lv}{p:List Int}(h:Et d L p≠0):F8 d L p=([],0,Et d L p):=by unfold F8;rw[if_pos h]
theorem Sg{d:Int}{L:List Lv}{p:List Int}(h:Et d L p=0):∃(n:Nat) (f:Nat->Nat) (S:List (Nat->Nat)),d=n/\1<=n/\n<=64/\Bd n f/\p=li n f/\(∀s∈S,Bd n s)/\L=(DC n S).map (Fp n S)/\AT L=S.map (li n)/\F8 d L p=(li n (Ec n S (DC n S) f 0).1,(Ec n S (DC n S) f 0).2,0):=by
 have h0:=h;unfold Et at h;split at h
 .exact absurd h (by assumption)
 .split at h
  .exact absurd h (by assumption)
  .split at h
   .cases h
   .rename_i h1 h2 h3;have h1:Be d L=0:=by simpa using h1
    have h2:BN p=0:=dw;obtain⟨n,rfl,k1,k2,S,k3,k4,k5⟩:=JZ h1;obtain⟨m,f,m1,m2,m3,m4,rfl⟩:=Ib h2;rw[Co]at h3;have hm:m=n:=ac;subst hm;refine⟨m,f,S,rfl,k1,k2,m4,rfl,k3,k5,k4,?_⟩;unfold F8;rw[h0,if_neg ae,k4,Ei k3,Hm m4];rfl
open Classical in
noncomputable def KY (d:Int) (L:List Lv) (p:List Int):Bool:=decide (Et d L p=0/\(F8 d L p).2.1=L.length/\(F8 d L p).1=li d.toNat Ej)
theorem Wr{n:Nat}{S:List (Nat->Nat)}{f:Nat->Nat}{L:List Lv}(hS:∀s∈S,Bd n s)(hP:Bd n f)(hL:L=Ce n S n)(he:Et n L (li n f)=0):KY n L (li n f)=true↔Gn S f:=by
 obtain⟨n',f',S',h1,h2,h3,h4,h5,h6,h7,h8,h9⟩:=Sg he;have hn:n'=n:=ac;subst hn;have hf:=VU hP h4 h5;subst hf;have aB:∀g,Gn S' g↔Gn S g:=fun g=>by
  have hs:=HJ n' S;have e:AT L=(BU n' S (DC n' S)).map (li n'):=by rw[hL,Fx,GM]
  have e2:S'=BU n' S (DC n' S):=by
   rw[<-Ei h6,<-h8,e,Ei (FH hS _)]
  rw[e2,DJ hS hs];exact⟨fun h=>h.1,fun h=>⟨h,fun i hi=>ac⟩⟩
 rw[<-aB,<-U0 h6 hP];unfold KY;rw[decide_eq_true_eq,h9];have aA:L.length=(DC n' S').length:=by rw[h7,List.length_map]
 constructor
 .rintro⟨_,k1,k2⟩;have k2:li n' (Ec n' S' (DC n' S') f 0).1=li n' Ej:=k2;have:=VU (OZ h6 _ f 0 hP) (Fb n') k2;exact Prod.ext this (by rw[<-aA];exact k1)
 .intro h;rw[h];exact⟨he,aA.symm,rfl⟩
theorem zcF{P:Prop}(h:P:=by
 go_wp2_with fail
 go_ret2;exact⟨QS HB.o.symm aC.o,aF.o.trans aE.o⟩):P:=h
theorem ZG(w:World)(d:Int)(L:List Lv)(lv:Value)(hL:Er w lv L)(hg:(AT L).length<=1000)(p:List Int)(pv:Value)(hp:Aj w pv p):
  Calls Tryz.prog 44 #[.agg #[.int .i64 d,lv],pv] w fun r w'=>r= .returned (.tuple #[.bool (KY d L p),.int .i64 (Et d L p)])/\Ex w w':=by
 obtain⟨d0,d1,e0⟩:=BM w d lv;obtain⟨za,zc,rfl,z1,z2,z3⟩:=(hL.ex e0).open3;unfold maxLen at z2;have aN:=Aa (Xg _ d L _ (hL.ex e0) hg p _ (hp.ex e0));obtain⟨pa,pc,rfl,_,_,_⟩:=hp.open;clear z3 hL hp;go_enter Tryz.func44,Tryz.ntmps44
 go_wp2_with fail
 obtain⟨q,hq⟩:=nA w.heap.size;rw[hq]at d0 d1
 try simp only[hq]
 clear hq;generalize w.alloc (.cells #[.int .i64 d,.slice za L.length zc] 43)=w1 at *;have aF:=Aa e0;clear e0;refine aN.o.mono ?_;rintro e w2⟨⟨v,rfl,hv⟩,aA⟩;have d1:=aA.cell d1;have aE:=Aa aA;by_cases he:Et d L p=0
 .obtain⟨n,f,S,rfl,hn1,hn2,hfP,rfl,hS,aL,aK,aB⟩:=Sg he;rw[aB]at hv ⊢;dsimp only at hv ⊢;obtain⟨g,aD⟩:=nA ((Ec n S (DC n S) f 0).1);obtain⟨k,hk⟩:=nA ((Ec n S (DC n S) f 0).2);rw[aD,hk]at aB;rw[aD]at hv;rw[hk];have HB:=Aa (show KY n L (li n f)=decide (k=L.length/\li n g=li n Ej) from by
   unfold KY;rw[aB,he];simp)
  have HV:=Aa hv;have aP:=Aa (fun w'=>Il w' n ac);obtain⟨va,vc,rfl,_,_,_⟩:=DQ hv;have aC:=Aa he.symm;have D1:=Aa d1;have hli:(li n f).length=n:=Co _ _;clear aB hv he aD aL aK hS aA;by_cases hkl:k=L.length
  .subst hkl;rw[show decide (L.length=L.length/\li n g=li n Ej)=decide (li n g=li n Ej) from decide_eq_decide.2 ⟨fun h=>h.2,fun h=>⟨rfl,h⟩⟩]at HB;go_wp2_with (first|(go_at_call 102;refine(aP.o _).mono ?_;rintro e w6⟨ig,rfl,aI,aG⟩;have aO:=Aa aI.li;have aJ:=Aa aG;clear aI aG)|(go_at_call 101;refine(GR w6 _ _ _ _ (HV.o.ex aJ.o) aO.o).mono ?_;rintro e w7⟨rfl,n7,aH⟩;have aM:=Aa (aJ.o.trans (show Ex w6 w7 from by rw[aH];exact(Ex.refl w6).drewN n7));clear aH))
   go_ret2;exact⟨QS HB.o.symm aC.o,aF.o.trans (aE.o.trans aM.o)⟩
  .rw[decide_eq_false (fun h=>hkl h.1)]at HB;have hb:((k:Int)==(L.length:Int))=false:=by simp;omega
   clear hkl;exact zcF
 .rw[U2 he]at hv ⊢;dsimp only at hv ⊢;have HB:=Aa (show KY d L p=false from by
   unfold KY;exact decide_eq_false fun h=>he h.1)
  obtain⟨E,hE⟩:=nA (Et d L p);rw[hE]at he ⊢;have aC:=Aa hE.symm;obtain⟨va,vc,rfl⟩:=Wc hv;have hb:(E==0)=false:=by simpa using he
  clear he hv hE aA;exact zcF
end Go.Proofs.YtehieobniamagaaGreat
