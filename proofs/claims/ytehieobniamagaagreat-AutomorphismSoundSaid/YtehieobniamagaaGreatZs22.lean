/- Walks of the reference's List, Weight and Word. -/
import Derived.Shelf.Sort.Plain
import Derived.Test.YtehieobniamagaaGreatProg
import Derived.Test.YtehieobniamagaaGreatZs21
namespace Go.Proofs.YtehieobniamagaaGreat
open Go.RowKit
set_option linter.all false
set_option maxRecDepth 100000
set_option maxHeartbeats 4000000
section
variable {p m:Int} {mv:Value}
end
section
variable {p m:Nat} {low:Vc}
theorem WC(hp:2<=p)(hm:1<=m){x:Nat}(hx:x<p^m):BK p m low x 1=x:=by
 show Ai p m low 1 x=x
 exact Cp hp hm hx
theorem WD(hp:2<=p)(hm:1<=m)(x y:Nat):∀e,BK p m low (Ai p m low x y) e=Ai p m low (BK p m low x e) (BK p m low y e)
 | 0=>by
  show 1=Ai p m low 1 1
  rw[Cp hp hm (Bz hp hm)]
 | e+1=>by
  show Ai p m low (BK p m low (Ai p m low x y) e) (Ai p m low x y)=Ai p m low (Ai p m low (BK p m low x e) x) (Ai p m low (BK p m low y e) y)
  have h1:1<=p:=ac;rw[WD hp hm x y e,Bb h1,<-Bb h1 (BK p m low y e),AU (BK p m low y e) x,Bb h1 x,<-Bb h1]
theorem Tx(hp:2<=p)(hm:1<=m){x:Nat}(hx:x<p^m):∀k,Tz p m low x k=BK p m low x (p^k)
 | 0=>by rw[Nat.pow_zero,WC hp hm hx];rfl
 | k+1=>by
  show BK p m low (Tz p m low x k) p=_
  rw[Tx hp hm hx k,Oh hp hm,Nat.pow_succ]
theorem Th(hp:2<=p)(hm:1<=m)(hF:Hf p m low){x:Nat}(h1:1<=x)(hx:x<p^m):∀e,1<=BK p m low x e
 | 0=>Nat.le_refl _
 | e+1=>hF.ne_zero hp hm (Th hp hm hF h1 hx e) (Dm hp hm x e) h1 hx
theorem Tv(hp:2<=p)(hm:1<=m)(hF:Hf p m low){x:Nat}(h1:1<=x)(hx:x<p^m)(k:Nat):1<=Tz p m low x k:=by
 rw[Tx hp hm hx];exact Th hp hm hF h1 hx _
end
structure Bo(p m:Nat)(ml pl sl:List Int)(fr N:Nat):Prop where
 hp:2<=p
 hm:1<=m
 hF:Hf p m (lw ml)
 n1:1<=N
 n2:N<=64
 pll:pl.length=N
 sll:sl.length=N
 inj:F9 N (BF pl)
 sc:∀i,i<N->∃z:Nat,sl.getD i 0=z/\1<=z/\z<p^m
 frm:fr<m
theorem Zw{pl:List Int}{N:Nat}(hl:pl.length=N)(hr:BB pl N=true)(hd:EH pl=false):F9 N (BF pl):=by
 refine⟨fun i hi=>?_,fun i j hi hj e=>Classical.byContradiction fun aA=>?_⟩
 .have:=Df hr (i:=i) ac;unfold BF;omega
 .have h1:=Df hr (i:=i) ac;have h2:=Df hr (i:=j) ac;have:EH pl=true:=IJ.2 (by
   unfold BF at e;rcases Nat.lt_or_gt_of_ne aA with h|h
   .exact⟨j,i,h,ac,ac⟩
   .exact⟨i,j,h,ac,ac⟩)
  rw[hd]at this;cases this
theorem Gv{p m:Int}{ml:List Int}{n:Int}{pl sl:List Int}{fr:Int}(h:CI p m ml n pl sl fr=0):
  ∃(pn mn N fn:Nat),p=pn/\m=mn/\n=N/\fr=fn/\Ha pn mn ml/\Ce p m ml=0/\Bo pn mn ml pl sl fn N:=by
 obtain⟨n0,n1,n2,n3,n4,n5,n6,n7,n8,n9⟩:=Ji h;obtain⟨pn,mn,rfl,rfl,hf,hpr,hF⟩:=(Cm _ _ _).1 n0;obtain⟨fn,rfl⟩:∃fn:Nat,fr=fn:=⟨fr.toNat,ac⟩;obtain⟨N,rfl⟩:∃N:Nat,n=N:=⟨n.toNat,ac⟩;exact⟨pn,mn,N,fn,rfl,rfl,rfl,rfl,hf,n0,hf.p2,hf.m1,hF,ac,ac,ac,ac,Zw ac n5 n8,fun i hi=>fac_at (by simpa only[Int.toNat_natCast]using n9) ac,ac⟩
theorem ZS{q:Nat}{l:List Int}(h:∀i,i<l.length->∃z:Nat,l.getD i 0=z/\1<=z/\z<q):EU q l=0:=by
 unfold EU;have aA:∀x∈l,∃z:Nat,x=z/\1<=z/\z<q:=fun x hx=>by
  obtain⟨i,hi,rfl⟩:=List.getElem_of_mem hx;have:=h i hi;rw[List.getD_eq_getElem?_getD,List.getElem?_eq_getElem hi]at this;exact this
 rw[if_neg,if_neg]
 .intro hc;rw[List.contains_iff_mem]at hc;obtain⟨z,h1,h2,_⟩:=aA 0 hc;omega
 .intro hc;obtain⟨x,hx,h1⟩:=List.any_eq_true.1 hc;obtain⟨z,rfl,h2,h3⟩:=aA x hx;unfold Gj at h1;simp at h1;omega
section
variable {p m:Nat} {ml pl sl:List Int} {fr N:Nat} {x:List Int}
theorem Bo.img(h:Bo p m ml pl sl fr N){i:Nat}(hi:i<N):Ln p m ml pl sl fr x N (BF pl i)=vF p m ml sl fr x i:=KZ h.inj _ N (Nat.le_refl _) i hi
theorem CU{N j:Nat}(h:j<N)(f:Nat->Int):(il N f).getD j 0=f j:=by
 exact zdp
theorem Bo.imgE(h:Bo p m ml pl sl fr N){j:Nat}(hj:j<N):∃z:Nat,Ln p m ml pl sl fr x N j=z/\z<p^m:=by
 obtain⟨i,hi,rfl⟩:=h.inj.surj hj;rw[h.img hi];exact⟨_,rfl,AY (by have:=h.hp;omega) _ _⟩
end
section
variable {p m:Nat} {ml pl sl ql tl:List Int} {fr fs N:Nat} {x:List Int}
theorem F9.comp{π σ:Nat->Nat}(h:F9 N π)(k:F9 N σ):F9 N (fun i=> σ (π i)):=
 ⟨fun i hi=>k.lt _ (h.lt i hi),fun i j hi hj e=>h.inj i j hi hj (k.inj _ _ (h.lt i hi) (h.lt j hj) e)⟩
theorem LR(h:Bo p m ml pl sl fr N){i:Nat}(hi:i<N):BF (il N (cP pl ql)) i=BF ql (BF pl i):=by
 unfold BF;rw[CU hi];rfl
theorem XC(h:Bo p m ml pl sl fr N)(k:Bo p m ml ql tl fs N):Bo p m ml (il N (cP pl ql)) (il N (cS p m ml pl sl tl fs)) ((fr+fs)%m) N where
 hp:=h.hp
 hm:=h.hm
 hF:=h.hF
 n1:=h.n1
 n2:=h.n2
 pll:=An _ _
 sll:=An _ _
 inj:=by
  have hc:=h.inj.comp k.inj;exact⟨fun i hi=>by rw[LR h hi];exact hc.lt i hi,fun i j hi hj e=>by rw[LR h hi,LR h hj]at e;exact hc.inj i j hi hj e⟩
 sc:=fun i hi=>by
  rw[CU hi];obtain⟨s,hs,aD,aA⟩:=h.sc i hi;obtain⟨t,ht,aC,aB⟩:=k.sc _ (h.inj.lt i hi);refine⟨_,rfl,?_,AY (by have:=h.hp;omega) _ _⟩;rw[hs,ht,Ay aA,Ay aB];exact h.hF.ne_zero h.hp h.hm aC aB (Tv h.hp h.hm h.hF aD aA fs) (OC h.hp h.hm aA fs)
 frm:=Nat.mod_lt _ (by have:=h.hm;omega)
theorem Lj(h:Bo p m ml pl sl fr N)(v:Nat->Int){i:Nat}(hi:i<N):(il N (plc (BF pl) v N)).getD (BF pl i) 0=v i:=by
 rw[CU (h.inj.lt i hi)];exact KZ h.inj v N (Nat.le_refl _) i hi
theorem Oi(hp:2<=p)(hm:1<=m)(hF:Hf p m (lw ml)){s:Nat}(h1:1<=s)(hq:s<p^m):1<=Ed p m ml s/\Ed p m ml s<p^m/\Ai p m (lw ml) s (Ed p m ml s)=1:=by
 obtain⟨z,a,b,c⟩:=hF.inv hp hm h1 hq;rw[Oj hp hm hF hq h1 b c];exact⟨a,b,c⟩
theorem Li(h:Bo p m ml pl sl fr N){i:Nat}(hi:i<N):BF (il N (plc (BF pl) (fun i=>(i:Int)) N)) (BF pl i)=i:=by
 unfold BF;have:=Lj h (fun i=>(i:Int)) hi;unfold BF at this;rw[this];rfl
theorem WM(h:Bo p m ml pl sl fr N)(bk:Nat)(aE:bk<m):Bo p m ml (il N (plc (BF pl) (fun i=>(i:Int)) N)) (il N (plc (BF pl) (ivS p m ml sl bk) N)) bk N where
 hp:=h.hp
 hm:=h.hm
 hF:=h.hF
 n1:=h.n1
 n2:=h.n2
 pll:=An _ _
 sll:=An _ _
 inj:=⟨fun j hj=>by
  obtain⟨i,hi,rfl⟩:=h.inj.surj hj;rw[Li h hi];exact hi,fun j j' hj aC e=>by
  obtain⟨i,hi,rfl⟩:=h.inj.surj hj;obtain⟨i',aD,rfl⟩:=h.inj.surj aC;rw[Li h hi,Li h aD]at e;rw[e]⟩
 sc:=fun j hj=>by
  obtain⟨i,hi,rfl⟩:=h.inj.surj hj;rw[Lj h _ hi];obtain⟨s,hs,aB,aA⟩:=h.sc i hi;obtain⟨k1,k2,-⟩:=Oi h.hp h.hm h.hF aB aA;refine⟨_,rfl,?_,OC h.hp h.hm ?_ _⟩
  .rw[hs,Ay aA];exact Tv h.hp h.hm h.hF k1 k2 _
  .rw[hs,Ay aA];exact k2
 frm:=aE
theorem Zy(h:Bo p m ml pl sl fr N):∀i,i<N->∃z:Nat,(il N (Ln p m ml pl sl fr x N)).getD i 0=z/\z<p^m:=fun i hi=>by
 rw[CU hi];exact h.imgE hi
end
section
variable {p m:Nat} {ml:List Int} {N:Nat}
theorem Oa(hp:2<=p)(sc:List Int)(x:Nat->Int)(N:Nat):JA p m N (DZ p m ml sc x):=fun j _=>by
 have:=AY (m:=m) (low:=lw ml) (show 1<=p by omega) (Ar (p^m) (sc.getD j 0)) (Ar (p^m) (x j));unfold DZ;omega
theorem NO{tl:List Int}{y:Nat->Int}{n:Nat}(hr:BB tl n=true)(hy:JA p m n y):JA p m tl.length (GX tl y):=fun j hj=>by
 have:=Df hr hj;exact hy _ ac
theorem KP{l:List (List Int)}{n:Nat}(hl:∀r∈l,r.length=n/\Cc (p^m) r=0){i:Nat}(hi:i<l.length):JA p m n (Ak l i):=fun j hj=>by
 have h1:l.getD i []=l[i]:=aw;obtain⟨h2,h3⟩:=hl _ (List.getElem_mem hi);unfold Ak;rw[h1];exact Lx h3 _ (by rw[List.getD_eq_getElem?_getD,List.getElem?_eq_getElem ac];exact List.getElem_mem _)
def Md(p m:Nat)(ml:List Int)(l1 l2:List (List Int))(tl sc:List Int):Prop:=
 ∀x,BY p m ml tl.length l2.length (fun i=>GX tl (Ak l2 i)) x↔BY p m ml tl.length l1.length (fun i=>DZ p m ml sc (Ak l1 i)) x
structure QU(p m:Nat)(ml:List Int)(n:Nat)(l1 l2:List (List Int)):Prop where
 hp:2<=p
 hm:1<=m
 hF:Hf p m (lw ml)
 h1:∀r∈l1,r.length=n/\Cc (p^m) r=0
 h2:∀r∈l2,r.length=n/\Cc (p^m) r=0
variable {l1 l2:List (List Int)} {n:Nat} {tl sc:List Int}
theorem QU.spL(h:QU p m ml n l1 l2)(t:Nat)(sc:List Int):QW p m ml t l1.length (fun i=>DZ p m ml sc (Ak l1 i)) (Hi p m ml t (fun i=>DZ p m ml sc (Ak l1 i)) l1.length):=
 Re h.hp h.hm h.hF (K:=l1.length) (fun i _=>Oa h.hp _ _ _) _ (Nat.le_refl _)
theorem QU.spR(h:QU p m ml n l1 l2)(hr:BB tl n=true):QW p m ml tl.length l2.length (fun i=>GX tl (Ak l2 i)) (Hi p m ml tl.length (fun i=>GX tl (Ak l2 i)) l2.length):=
 Re h.hp h.hm h.hF (K:=l2.length) (fun i hi=>NO hr (KP h.h2 hi)) _ (Nat.le_refl _)
theorem QU.mis0(h:QU p m ml n l1 l2)(hr:BB tl n=true):Jj p m ml tl.length (Hi p m ml tl.length (fun i=>GX tl (Ak l2 i)) l2.length) (fun i=>DZ p m ml sc (Ak l1 i)) l1.length<0↔∀x,BY p m ml tl.length l2.length (fun i=>GX tl (Ak l2 i)) x->BY p m ml tl.length l1.length (fun i=>DZ p m ml sc (Ak l1 i)) x:=by
 rw[Iy h.hp h.hm (h.spR hr) fun i _=>Oa h.hp _ _ _];exact Cl.sol_iff
theorem QU.mis1(h:QU p m ml n l1 l2)(hr:BB tl n=true):Jj p m ml tl.length (Hi p m ml tl.length (fun i=>DZ p m ml sc (Ak l1 i)) l1.length) (fun i=>GX tl (Ak l2 i)) l2.length<0↔∀x,BY p m ml tl.length l1.length (fun i=>DZ p m ml sc (Ak l1 i)) x->BY p m ml tl.length l2.length (fun i=>GX tl (Ak l2 i)) x:=by
 rw[Iy h.hp h.hm (h.spL _ sc) fun i hi=>NO hr (KP h.h2 hi)];exact Cl.sol_iff
theorem QU.wit(h:QU p m ml n l1 l2)(hr:BB tl n=true):(Fb p m ml l1 l2 tl sc).1<0↔Md p m ml l1 l2 tl sc:=by
 have e0:=h.mis0 (sc:=sc) hr;have e1:=h.mis1 (sc:=sc) hr;unfold Fb;simp only;split
 .rename_i h0;refine⟨fun h=>absurd h ag,fun hc=>?_⟩;have:=e0.2 fun x hx=>(hc x).1 hx;omega
 .rename_i h0;split
  .rename_i h1;refine⟨fun h=>absurd h ag,fun hc=>?_⟩;have:=e1.2 fun x hx=>(hc x).2 hx;omega
  .rename_i h1;refine⟨fun _ x=>⟨e0.1 ac x,e1.1 ac x⟩,fun _=>ag⟩
theorem LT(hp:2<=p)(msg:List Int)(rows:List (List Int)):∀i j,0<=DH p m ml msg rows i j/\DH p m ml msg rows i j<((p^m:Nat):Int)
 | 0,j=>by
  have:0<p^m:=Nat.pow_pos ac;show(0:Int)<=0/\(0:Int)<_
  omega
 | i+1,j=>by
  have:=E4 (m:=m) (show 1<=p by omega) (Ar (p^m) (DH p m ml msg rows i j)) (Ai p m (lw ml) (Ar (p^m) (msg.getD i 0)) (Ar (p^m) (Ak rows i j)));show 0<=((AG p m _ _:Nat):Int)/\((AG p m _ _:Nat):Int)<_
  omega
theorem Nq(hp:2<=p)(msg:List Int)(rows:List (List Int))(i:Nat):DH p m ml msg rows (i+1)=BN p m ml (DH p m ml msg rows i) (Ar (p^m) (msg.getD i 0)) (Ak rows i):=by
 funext j;have aA:0<p^m:=Nat.pow_pos ac;obtain⟨r1,r2⟩:=LT (m:=m) (ml:=ml) hp msg rows i j;show((AG p m (Ar (p^m) (DH p m ml msg rows i j)) (Ai p m (lw ml) (Ar (p^m) (msg.getD i 0)) (Ar (p^m) (Ak rows i j))):Nat):Int)=_
 unfold BN;split
 .rename_i h0;rw[h0,Cf,AE ac,Bt ac (B9 aA _),Fy r1 r2]
 .rfl
theorem Zj(hp:2<=p)(sc:List Int)(c:Nat)(v u:Nat->Int)(x:Nat->Int)(K:Nat)(hv:∀j,0<=v j/\v j<((p^m:Nat):Int)):dt p m ml K (DZ p m ml sc (BN p m ml v c u)) x=AG p m (dt p m ml K (DZ p m ml sc v) x) (Ai p m (lw ml) c (dt p m ml K (DZ p m ml sc u) x)):=by
 have hq0:0<p^m:=Nat.pow_pos ac;rw[<-LB hp];refine FH (fun j _=>?_) fun _ _=>rfl;have hk:∀a b,Ar (p^m) ((Ai p m (lw ml) a b:Nat):Int)=Ai p m (lw ml) a b:=fun a b=>Ay (AY ac _ _);have aB:∀s,Ai p m (lw ml) s (Ai p m (lw ml) c (Ar (p^m) (u j)))=Ai p m (lw ml) c (Ai p m (lw ml) s (Ar (p^m) (u j))):=fun s=>by
  rw[<-Bb ac,<-Bb ac,AU s c]
 have aA:∀f:Nat->Int,DZ p m ml sc f j=((Ai p m (lw ml) (Ar (p^m) (sc.getD j 0)) (Ar (p^m) (f j)):Nat):Int):=fun f=>rfl;rw[aA];have hR:BN p m ml (DZ p m ml sc v) c (DZ p m ml sc u) j=if DZ p m ml sc u j=0 then DZ p m ml sc v j else((AG p m (Ar (p^m) (DZ p m ml sc v j)) (Ai p m (lw ml) c (Ar (p^m) (DZ p m ml sc u j))):Nat):Int):=rfl;have hL:BN p m ml v c u j=if u j=0 then v j else((AG p m (Ar (p^m) (v j)) (Ai p m (lw ml) c (Ar (p^m) (u j))):Nat):Int):=rfl;rw[hR,hL];by_cases hu:u j=0
 .have h0:DZ p m ml sc u j=0:=by rw[aA,hu,Cf,AE ac];rfl
  rw[if_pos hu,if_pos h0,aA]
 .rw[if_neg hu,Ay (E4 ac _ _),GF ac,aB];by_cases h0:DZ p m ml sc u j=0
  .rw[if_pos h0,aA];rw[aA]at h0;have aC:Ai p m (lw ml) (Ar (p^m) (sc.getD j 0)) (Ar (p^m) (u j))=0:=by exact_mod_cast h0
   rw[aC,AE ac,Bt ac (AY ac _ _)]
  .rw[if_neg h0,aA,aA,hk,hk]
theorem XE(hp:2<=p)(sc msg:List Int)(rows:List (List Int))(x:Nat->Int)(K:Nat)(hx:BY p m ml K rows.length (fun i=>DZ p m ml sc (Ak rows i)) x):∀i,i<=rows.length->dt p m ml K (DZ p m ml sc (DH p m ml msg rows i)) x=0
 | 0,_=>E7 hp fun j _=>by
  show((Ai p m (lw ml) _ (Ar (p^m) 0):Nat):Int)=0
  rw[Cf,AE (by omega)];rfl
 | i+1,hi=>by
  rw[Nq hp,Zj hp _ _ _ _ _ _ (fun j=>LT hp _ _ _ j),XE hp sc msg rows x K hx i (by omega)];have:=hx i ac;rw[show dt p m ml K (DZ p m ml sc (Ak rows i)) x=0 from this,AE ac,Bt ac (Nat.pow_pos ac)]
theorem XD(hp:2<=p)(tl msg:List Int)(rows:List (List Int))(x:Nat->Int)(K:Nat)(hx:BY p m ml K rows.length (fun i=>GX tl (Ak rows i)) x):∀i,i<=rows.length->dt p m ml K (GX tl (DH p m ml msg rows i)) x=0
 | 0,_=>E7 hp fun j _=>rfl
 | i+1,hi=>by
  rw[Nq hp];have e:GX tl (BN p m ml (DH p m ml msg rows i) (Ar (p^m) (msg.getD i 0)) (Ak rows i))=BN p m ml (GX tl (DH p m ml msg rows i)) (Ar (p^m) (msg.getD i 0)) (GX tl (Ak rows i)):=rfl;rw[e,LB hp,XD hp tl msg rows x K hx i ac];have:=hx i ac;rw[show dt p m ml K (GX tl (Ak rows i)) x=0 from this,AE ac,Bt ac (Nat.pow_pos ac)]
theorem QU.shw(h:QU p m ml n l1 l2)(hr:BB tl n=true)(hc:Md p m ml l1 l2 tl sc)(side:Int)(msg:List Int):Ps p m ml l1 l2 tl sc side msg=false:=by
 have m1:=(Iy (p:=p) (m:=m) (ml:=ml) h.hp h.hm (h.spL tl.length sc) (n:=1) (l:=fun _=>GX tl (DH p m ml msg l2 l2.length)) fun i _=>NO hr fun j _=>LT h.hp _ _ _ _).2 fun i _ x hx=>
  XD h.hp tl msg l2 x tl.length ((hc x).2 hx) _ (Nat.le_refl _)
 have m0:=(Iy (p:=p) (m:=m) (ml:=ml) h.hp h.hm (h.spR hr) (n:=1) (l:=fun _=>DZ p m ml sc (DH p m ml msg l1 l1.length)) fun i _=>Oa h.hp _ _ _).2 fun i _ x hx=>
  XE h.hp sc msg l1 x tl.length ((hc x).1 hx) _ (Nat.le_refl _)
 unfold Ps;by_cases hs:side=1
 .simp only[hs,if_true];split
  .rfl
  .rw[decide_eq_false_iff_not];omega
 .simp only[hs,if_false];split
  .rfl
  .rw[decide_eq_false_iff_not];omega
end
theorem P8{p m:Nat}(hp:1<=p){g:Nat->Nat}{K:Nat}:∀n,K<=n->(∀j,K<=j->j<n->g j=0)->ks p m g n=ks p m g K
 | 0,h,_=>by
   obtain rfl:K=0:=ac;rfl
 | n+1,h,hz=>by
  by_cases e:K=n+1
  .rw[e]
  .show AG p m (ks p m g n) (g n)=_
   rw[hz n ac ac,Bt hp (ks_lt hp _ _)];exact P8 hp n ac fun j h1 h2=>hz j h1 ac
theorem Qz{p m:Nat}{ml:List Int}(hp:1<=p){n K:Nat}(hK:K<=n)(f x:Nat->Int):dt p m ml n f (fun i=>if i<K then x i else 0)=dt p m ml K f x:=by
 rw[Hm,Hm,P8 hp n hK fun j h1 _=>by
  show Ai p m (lw ml) _ (Ar (p^m) (if j<K then x j else 0))=0
  rw[if_neg ac,Cf,AE hp]]
 exact GC K fun j hj=>by rw[if_pos hj]
structure AW(p m:Nat)(ml:List Int)(n:Nat)(l1 l2:List (List Int))(pl sl:List Int):Prop where
 pll:pl.length=n
 sll:sl.length=n
 nn:∀i,i<n->0<=pl.getD i 0
 inj:F9 n (BF pl)
 sc:∀i,i<n->∃z:Nat,sl.getD i 0=z/\1<=z/\z<p^m
 sol:∀x,BY p m ml n l2.length (Ak l2) x↔BY p m ml n l1.length (fun i=>plc (BF pl) (DZ p m ml sl (Ak l1 i)) n) x
section
variable {p m:Nat} {ml:List Int} {n:Nat} {l1 l2:List (List Int)} {pl sl:List Int}
theorem Cn{l:List Int}{K j:Nat}(hj:j<K):(l.take K).getD j 0=l.getD j 0:=by
 rw[List.getD_eq_getElem?_getD,List.getElem?_take_of_lt hj,<-List.getD_eq_getElem?_getD]
theorem AW.rng(h:AW p m ml n l1 l2 pl sl)(K:Nat):BB (pl.take K) n=true:=by
 unfold BB;refine List.all_eq_true.2 fun x hx=>?_;obtain⟨i,hi,rfl⟩:=List.getElem_of_mem (List.mem_of_mem_take hx);have h1:=h.nn i (by have:=h.pll;omega);have h2:=h.inj.lt i (by have:=h.pll;omega);unfold BF at h2;have e:pl.getD i 0=pl[i]:=by rw[List.getD_eq_getElem?_getD,List.getElem?_eq_getElem hi];rfl
 rw[e]at h1 h2;simp;omega
theorem AW.compat(h:AW p m ml n l1 l2 pl sl)(hp:2<=p){K:Nat}(hK:K<=n):Md p m ml l1 l2 (pl.take K) (sl.take K):=by
 have hl:(pl.take K).length=K:=by rw[List.length_take,h.pll];omega
 intro x;rw[hl];have hz:∀i,i<n->plc (BF pl) (fun i=>if i<K then x i else 0) n (BF pl i)=if i<K then x i else 0:=fun i hi=>KZ h.inj _ n (Nat.le_refl _) i hi;have e2:∀i,dt p m ml n (Ak l2 i) (plc (BF pl) (fun i=>if i<K then x i else 0) n)=dt p m ml K (GX (pl.take K) (Ak l2 i)) x:=fun i=>by
  rw[Kn,OJ ac h.inj,Kn,Qz ac hK];refine FH (fun j hj=>?_) fun _ _=>rfl;unfold GX BF;rw[Cn hj]
 have e1:∀i,dt p m ml n (plc (BF pl) (DZ p m ml sl (Ak l1 i)) n) (plc (BF pl) (fun i=>if i<K then x i else 0) n)=dt p m ml K (DZ p m ml (sl.take K) (Ak l1 i)) x:=fun i=>by
  rw[OJ ac h.inj,FH (fun _ _=>rfl) hz,Qz ac hK];refine FH (fun j hj=>?_) fun _ _=>rfl;unfold DZ;rw[Cn hj]
 have:=h.sol (plc (BF pl) (fun i=>if i<K then x i else 0) n);constructor
 .intro hx i hi;rw[<-e1 i];exact this.1 (fun i hi=>by rw[e2 i];exact hx i hi) i hi
 .intro hx i hi;rw[<-e2 i];exact this.2 (fun i hi=>by rw[e1 i];exact hx i hi) i hi
theorem AW.of(hp:2<=p)(h1:pl.length=n)(h2:sl.length=n)(h3:∀i,i<n->0<=pl.getD i 0)(h4:F9 n (BF pl))(h5:∀i,i<n->∃z:Nat,sl.getD i 0=z/\1<=z/\z<p^m)(hc:Md p m ml l1 l2 pl sl):AW p m ml n l1 l2 pl sl:=by
 refine⟨h1,h2,h3,h4,h5,fun x=>?_⟩;have e2:∀i,dt p m ml n (GX pl (Ak l2 i)) (fun i=>x (BF pl i))=dt p m ml n (Ak l2 i) x:=fun i=>by
  rw[Hm,Hm,<-h4.sum ac (g:=fun j=>Ai p m (lw ml) (Ar (p^m) (Ak l2 i j)) (Ar (p^m) (x j))) fun j=>AY ac _ _];rfl
 have e1:∀i,dt p m ml n (plc (BF pl) (DZ p m ml sl (Ak l1 i)) n) x=dt p m ml n (DZ p m ml sl (Ak l1 i)) (fun i=>x (BF pl i)):=fun i=>OJ ac h4 _ _;have:=hc (fun i=>x (BF pl i));rw[h1]at this;constructor
 .intro hx i hi;show dt p m ml n (plc (BF pl) (DZ p m ml sl (Ak l1 i)) n) x=0
  rw[e1 i];exact this.1 (fun i hi=>by show dt p m ml n (GX pl (Ak l2 i)) _=0;rw[e2 i];exact hx i hi) i hi
 .intro hx i hi;rw[<-e2 i];exact this.2 (fun i hi=>by rw[<-e1 i];exact hx i hi) i hi
end
section
variable {σ:Type} {step:σ->List Int->List Int->σ × Int} {tl sc:List Int}
theorem VK{j:Nat}:∀c s,(FM step tl sc j c s).2=0->∀a,1<=a->a<=c->∃s',(step s' (tl ++ [(j:Int)]) (sc ++ [(a:Int)])).2=0
 | 0,s,h,a,h1,h2=>by omega
 | c+1,s,h,a,h1,h2=>by
  unfold FM at h;split at h
  .rename_i h0;exact absurd h h0
  .rename_i h0;by_cases e:a=c+1
   .subst e;exact⟨_,h⟩
   .exact VK c s (by omega) a h1 (by omega)
theorem VH{q:Nat}:∀n s,(Eh step q tl sc n s).2=0->∀j,j<n->tl.contains (j:Int)=false->∃s',(FM step tl sc j (q-1) s').2=0
 | 0,s,h,j,hj,_=>by omega
 | n+1,s,h,j,hj,hc=>by
  unfold Eh at h;split at h
  .rename_i h0;exact absurd h h0
  .rename_i h0;by_cases e:j=n
   .subst e;rw[hc]at h;exact⟨_,h⟩
   .exact VH n s (by omega) j (by omega) hc
end
section
variable {p m:Nat} {ml:List Int} {n:Nat} {l1 l2:List (List Int)} {pl sl:List Int}
theorem AW.step(h:AW p m ml n l1 l2 pl sl){K:Nat}(hK:K<n):∃a:Nat,1<=a/\a<=p^m-1/\pl.getD K 0=((BF pl K:Nat):Int)/\sl.getD K 0=(a:Int)/\BF pl K<n/\(pl.take K).contains ((BF pl K:Nat):Int)=false/\pl.take (K+1)=pl.take K ++ [((BF pl K:Nat):Int)]/\sl.take (K+1)=sl.take K ++ [(a:Int)]:=by
 obtain⟨a,ha,a1,a2⟩:=h.sc K hK;have hn:=h.nn K hK;have e1:((BF pl K:Nat):Int)=pl.getD K 0:=by unfold BF;omega
 refine⟨a,a1,ac,e1.symm,ha,h.inj.lt K hK,?_,?_,?_⟩
 .cases hcon:(pl.take K).contains ((BF pl K:Nat):Int) with
  | false=>rfl
  | true=>
   exfalso;have aA:=List.contains_iff_mem.1 hcon;obtain⟨i,hi,e⟩:=List.getElem_of_mem aA;rw[List.length_take,h.pll]at hi;rw[List.getElem_take]at e;have e2:pl.getD i 0=pl[i]'(by have:=h.pll;omega):=by rw[List.getD_eq_getElem?_getD,List.getElem?_eq_getElem];rfl
   have:=h.inj.inj i K ac hK (by
    show(pl.getD i 0).toNat=_
    rw[e2,e];simp)
   omega
 .rw[List.take_add_one,List.getElem?_eq_getElem (by have:=h.pll;omega),e1,List.getD_eq_getElem?_getD,List.getElem?_eq_getElem (by have:=h.pll;omega)];rfl
 .rw[List.take_add_one,List.getElem?_eq_getElem (by have:=h.sll;omega),<-ha,List.getD_eq_getElem?_getD,List.getElem?_eq_getElem (by have:=h.sll;omega)];rfl
theorem Xc{es:List Rf}{k:Nat}{tl sl:List Int}{X:Nat × Int}(h:(Vf p m ml l1 l2 n es k tl sl X).2=0):(X.2=0/\tl.length<n)∨∃side msg,Ps p m ml l1 l2 tl sl side msg=true:=by
 unfold Vf at h;split at h
 .cases h
 .split at h
  .cases h
  .split at h
   .rename_i h0;exact .inl ⟨h,h0.2.2⟩
   .split at h
    .rename_i h0;exact .inr ⟨_,_,h0.2⟩
    .cases h
theorem Qp(hT:QU p m ml n l1 l2)(h:AW p m ml n l1 l2 pl sl){es:List Rf}:∀d k K,K<=n->(Xb p m ml l1 l2 n es d k (pl.take K) (sl.take K)).2≠0
 | d,k,K,hK,h0=>by
  have hl:(pl.take K).length=K:=by rw[List.length_take,h.pll];omega
  have hc:=h.compat hT.hp hK
  cases d with
  | zero=>
   unfold Xb at h0;rcases Xc h0 with⟨h1,_⟩|⟨side,msg,h1⟩
   .cases h1
   .rw[hT.shw (h.rng K) hc]at h1;cases h1
  | succ d=>
   unfold Xb at h0;rcases Xc h0 with⟨h1,h2⟩|⟨side,msg,h1⟩
   .rw[hl]at h2;obtain⟨a,a1,a2,-,-,b1,b2,c1,c2⟩:=h.step h2;obtain⟨s1,h3⟩:=VH n _ h1 _ b1 b2;obtain⟨s2,h4⟩:=VK _ _ h3 a a1 a2;rw[<-c1,<-c2]at h4;exact Qp hT h d s2 (K+1) h2 h4
   .rw[hT.shw (h.rng K) hc]at h1;cases h1
end
def O8(B:Nat):Nat->Nat
 | 0=>1
 | d+1=>1+B*O8 B d
theorem M7(B:Nat):∀d,O8 B d<=O8 B (d+1)
 | 0=>by simp[O8]
 | d+1=>by
  show 1+B*O8 B d<=1+B*O8 B (d+1)
  have:=Nat.mul_le_mul_left B (M7 B d);omega
theorem Wh(B:Nat){d e:Nat}(h:d<=e):O8 B d<=O8 B e:=by
 obtain⟨k,rfl⟩:=Nat.exists_eq_add_of_le h
 induction k with
 | zero=>exact Nat.le_refl _
 | succ k ih=>exact Nat.le_trans (ih ac) (M7 B _)
theorem Tu{l:List Int}{x:Int}{i:Nat}(h:i<l.length):(l ++ [x]).getD i 0=l.getD i 0:=by
 rw[List.getD_eq_getElem?_getD,List.getElem?_append_left h,<-List.getD_eq_getElem?_getD]
theorem Km{l:List Int}{x:Int}:(l ++ [x]).getD l.length 0=x:=by
 exact zcD
structure Yf(q n:Nat)(tl sc:List Int):Prop where
 len:sc.length=tl.length
 rng:∀i,i<tl.length->0<=tl.getD i 0/\tl.getD i 0<n
 inj:∀i j,i<tl.length->j<i->tl.getD j 0≠tl.getD i 0
 sc:∀i,i<tl.length->∃z:Nat,sc.getD i 0=z/\1<=z/\z<q
theorem Yf.snoc{q n:Nat}{tl sc:List Int}(h:Yf q n tl sc){j a:Nat}(hj:j<n)(hc:tl.contains (j:Int)=false)(h1:1<=a)(h2:a<q):Yf q n (tl ++ [(j:Int)]) (sc ++ [(a:Int)]):=by
 have hl:(tl ++ [(j:Int)]).length=tl.length+1:=ag;refine⟨by simp[h.len],fun i hi=>?_,fun i k hi hk=>?_,fun i hi=>?_⟩
 .rw[hl]at hi;by_cases e:i=tl.length
  .rw[e,Km];omega
  .rw[Tu ac];exact h.rng i ac
 .rw[hl]at hi;rw[Tu (l:=tl) (i:=k) ac];by_cases e:i=tl.length
  .rw[e,Km];intro e2;have:tl.contains (j:Int)=true:=List.contains_iff_mem.2 (by
    rw[<-e2,List.getD_eq_getElem?_getD,List.getElem?_eq_getElem ac];exact List.getElem_mem _)
   rw[hc]at this;cases this
  .rw[Tu ac];exact h.inj i k ac hk
 .rw[hl]at hi;by_cases e:i=tl.length
  .rw[e,<-h.len,Km];exact⟨a,rfl,h1,h2⟩
  .rw[Tu (by rw[h.len];omega)];exact h.sc i ac
theorem Yf.rngB{q n:Nat}{tl sc:List Int}(h:Yf q n tl sc):BB tl n=true:=by
 unfold Go.Proofs.YtehieobniamagaaGreat.BB;refine List.all_eq_true.2 fun x hx=>?_;obtain⟨i,hi,rfl⟩:=List.getElem_of_mem hx;have h1:=h.rng i hi;have e:tl.getD i 0=tl[i]:=aw;rw[e]at h1;simp;omega
theorem Yf.injN{q n:Nat}{tl sc:List Int}(h:Yf q n tl sc)(hl:tl.length=n):F9 n (BF tl):=by
 refine⟨fun i hi=>?_,fun i j hi hj e=>Classical.byContradiction fun aA=>?_⟩
 .have:=h.rng i ac;unfold BF;omega
 .have h1:=h.rng i ac;have h2:=h.rng j ac;unfold BF at e;rcases Nat.lt_or_gt_of_ne aA with g|g
  .exact h.inj j i ac g ac
  .exact h.inj i j ac g ac
structure Yh(p m:Nat)(ml:List Int)(l1 l2:List (List Int))(n:Nat)(nd:Nd)(tl sc:List Int):Prop where
 v:Yf (p^m) n nd.tl nd.sc
 len:nd.tl.length=n
 t:nd.tl.take tl.length=tl
 s:nd.sc.take tl.length=sc
 c:Md p m ml l1 l2 nd.tl nd.sc
def Ny(n:Nat)(nd:Nd)(pl sl:List Int):Prop:=
 ∃i,i<=n/\(∀k,k<i->nd.tl.getD k 0=pl.getD k 0/\nd.sc.getD k 0=sl.getD k 0)/\(i=n∨nd.tl.getD i 0<pl.getD i 0∨(nd.tl.getD i 0=pl.getD i 0/\nd.sc.getD i 0<sl.getD i 0))
theorem MP{l t:List Int}{x:Int}(h:l.take (t.length+1)=t ++ [x]):l.take t.length=t/\l.getD t.length 0=x:=by
 constructor
 .have:(l.take (t.length+1)).take t.length=(t ++ [x]).take t.length:=by rw[h]
  rw[List.take_take,show min t.length (t.length+1)=t.length from ac,List.take_left]at this;exact this
 .have h2:(l.take (t.length+1)).getD t.length 0=l.getD t.length 0:=Cn ac;rw[<-h2,h,Km]
section
variable {p m:Nat} {ml:List Int} {n:Nat} {l1 l2:List (List Int)} {pl sl tl sc:List Int} {nd:Nd}
theorem Yh.back{j a:Int}(h:Yh p m ml l1 l2 n nd (tl ++ [j]) (sc ++ [a]))(hl:sc.length=tl.length):Yh p m ml l1 l2 n nd tl sc/\nd.tl.getD tl.length 0=j/\nd.sc.getD tl.length 0=a:=by
 have h1:=h.t;have h2:=h.s;rw[List.length_append]at h1 h2;obtain⟨a1,a2⟩:=MP (t:=tl) h1;obtain⟨b1,b2⟩:=MP (t:=sc) (by rw[hl];exact h2);rw[hl]at b1 b2;exact⟨⟨h.v,h.len,a1,b1,h.c⟩,a2,b2⟩
theorem Yh.lex{j a:Int}(h:Yh p m ml l1 l2 n nd (tl ++ [j]) (sc ++ [a]))(hl:sc.length=tl.length)(hK:tl.length<n)(hp:pl.take tl.length=tl)(hs:sl.take tl.length=sc)(aA:j<pl.getD tl.length 0∨(j=pl.getD tl.length 0/\a<sl.getD tl.length 0)):Ny n nd pl sl:=by
 obtain⟨h0,h1,h2⟩:=h.back hl;refine⟨tl.length,ac,fun k hk=>?_,.inr (by rw[h1,h2];exact aA)⟩;have e1:nd.tl.getD k 0=tl.getD k 0:=by rw[<-Cn (l:=nd.tl) hk,h0.t]
 have e2:nd.sc.getD k 0=sc.getD k 0:=by rw[<-Cn (l:=nd.sc) hk,h0.s]
 have e3:pl.getD k 0=tl.getD k 0:=by rw[<-Cn (l:=pl) hk,hp]
 have e4:sl.getD k 0=sc.getD k 0:=by rw[<-Cn (l:=sl) hk,hs]
 rw[e1,e2,e3,e4];exact⟨rfl,rfl⟩
structure XS(p m:Nat)(ml:List Int)(l1 l2:List (List Int))(n b s0:Nat)(tl sc:List Int)(r:(Nat × List Nd) × Int):Prop where
 cnt:r.1.1<=s0+b
 res:r.2=0∨(r.2=18/\Yh p m ml l1 l2 n (Cq r.1.2) tl sc)
 fnd:∀pl sl,AW p m ml n l1 l2 pl sl->pl.take tl.length=tl->sl.take tl.length=sc->r.2=18/\Ny n (Cq r.1.2) pl sl
variable {step:Nat × List Nd->List Int->List Int->(Nat × List Nd) × Int} {b:Nat}
theorem PB(hl:sc.length=tl.length)(hK:tl.length<n){j:Nat}(aA:∀(a:Nat) s,1<=a->a<=p^m-1->s.1+b<=65536->XS p m ml l1 l2 n b s.1 (tl ++ [(j:Int)]) (sc ++ [(a:Int)]) (step s (tl ++ [(j:Int)]) (sc ++ [(a:Int)]))):
  ∀c,c<=p^m-1->∀s,s.1+c*b<=65536->(FM step tl sc j c s).1.1<=s.1+c*b/\((FM step tl sc j c s).2=0∨((FM step tl sc j c s).2=18/\∃a:Nat,1<=a/\a<=c/\Yh p m ml l1 l2 n (Cq (FM step tl sc j c s).1.2) (tl ++ [(j:Int)]) (sc ++ [(a:Int)])))/\
   ∀pl sl,AW p m ml n l1 l2 pl sl->pl.take tl.length=tl->sl.take tl.length=sc->pl.getD tl.length 0=j->sl.getD tl.length 0<=c->(FM step tl sc j c s).2=18/\Ny n (Cq (FM step tl sc j c s).1.2) pl sl
 | 0,_,s,_=>by
  refine⟨by show s.1<=_;omega,.inl rfl,fun pl sl hT h1 h2 h3 h4=>?_⟩;obtain⟨z,hz,h5,_⟩:=hT.sc tl.length hK;rw[hz]at h4;omega
 | c+1,hc,s,hs=>by
  have hm:(c+1)*b=c*b+b:=by rw[Nat.add_mul,Nat.one_mul]
  obtain⟨i1,i2,i3⟩:=PB hl hK aA c ac s ac;by_cases h0:(FM step tl sc j c s).2=0
  .have e:FM step tl sc j (c+1) s=step (FM step tl sc j c s).1 (tl ++ [(j:Int)]) (sc ++ [((c+1:Nat):Int)]):=by
    show(if _ then _ else _)=_
    rw[if_neg (fun h=>h h0)]
   rw[e];have ho:=aA (c+1) (FM step tl sc j c s).1 ac hc ac;refine⟨by have:=ho.cnt;omega,?_,fun pl sl hT h1 h2 h3 h4=>?_⟩
   .rcases ho.res with h|⟨h,hf⟩
    .exact .inl h
    .exact .inr ⟨h,c+1,ac,ac,hf⟩
   .by_cases h5:sl.getD tl.length 0<=c
    .have:=(i3 pl sl hT h1 h2 h3 h5).1;rw[h0]at this;cases this
    .obtain⟨a,a1,a2,b1,b2,_,_,c1,c2⟩:=hT.step hK;have ea:a=c+1:=by omega
     have ej:((BF pl tl.length:Nat):Int)=j:=by rw[<-b1,h3]
     refine ho.fnd pl sl hT ?_ ?_
     .rw[List.length_append];show pl.take (tl.length+1)=_
      rw[c1,h1,ej]
     .rw[List.length_append];show sl.take (tl.length+1)=_
      rw[c2,h2,ea]
  .have e:FM step tl sc j (c+1) s=FM step tl sc j c s:=by
    show(if _ then _ else _)=_
    rw[if_pos h0]
   rw[e];rcases i2 with h|⟨h,a,a1,a2,hf⟩
   .exact absurd h h0
   .refine⟨ac,.inr ⟨h,a,a1,ac,hf⟩,fun pl sl hT h1 h2 h3 h4=>?_⟩;by_cases h5:sl.getD tl.length 0<=c
    .exact i3 pl sl hT h1 h2 h3 h5
    .exact⟨h,hf.lex hl hK h1 h2 (.inr ⟨h3.symm,ac⟩)⟩
theorem Py(hl:sc.length=tl.length)(hK:tl.length<n)(aA:∀(j a:Nat) s,j<n->tl.contains (j:Int)=false->1<=a->a<=p^m-1->s.1+b<=65536->XS p m ml l1 l2 n b s.1 (tl ++ [(j:Int)]) (sc ++ [(a:Int)]) (step s (tl ++ [(j:Int)]) (sc ++ [(a:Int)]))):
  ∀J,J<=n->∀s,s.1+J*((p^m-1)*b)<=65536->(Eh step (p^m) tl sc J s).1.1<=s.1+J*((p^m-1)*b)/\((Eh step (p^m) tl sc J s).2=0∨((Eh step (p^m) tl sc J s).2=18/\∃j a:Nat,j<J/\Yh p m ml l1 l2 n (Cq (Eh step (p^m) tl sc J s).1.2) (tl ++ [(j:Int)]) (sc ++ [(a:Int)])))/\
   ∀pl sl,AW p m ml n l1 l2 pl sl->pl.take tl.length=tl->sl.take tl.length=sc->pl.getD tl.length 0<J->(Eh step (p^m) tl sc J s).2=18/\Ny n (Cq (Eh step (p^m) tl sc J s).1.2) pl sl
 | 0,_,s,_=>by
  refine⟨by show s.1<=_;omega,.inl rfl,fun pl sl hT h1 h2 h3=>?_⟩;have:=hT.nn tl.length hK;omega
 | J+1,hJ,s,hs=>by
  have hm:(J+1)*((p^m-1)*b)=J*((p^m-1)*b)+(p^m-1)*b:=by rw[Nat.add_mul,Nat.one_mul]
  obtain⟨i1,i2,i3⟩:=Py hl hK aA J ac s ac;by_cases h0:(Eh step (p^m) tl sc J s).2=0
  .cases hc:tl.contains (J:Int) with
   | true=>
    have e:Eh step (p^m) tl sc (J+1) s=Eh step (p^m) tl sc J s:=by
     show(if _ then _ else if _ then _ else _)=_
     rw[if_neg (fun h=>h h0),if_pos hc]
    rw[e];refine⟨ac,.inl h0,fun pl sl hT h1 h2 h3=>?_⟩;by_cases h5:pl.getD tl.length 0<J
    .exact i3 pl sl hT h1 h2 h5
    .obtain⟨a,a1,a2,b1,b2,_,d1,c1,c2⟩:=hT.step hK;have ej:((BF pl tl.length:Nat):Int)=J:=by rw[<-b1];omega
     rw[h1,ej,hc]at d1;cases d1
   | false=>
    have e:Eh step (p^m) tl sc (J+1) s=FM step tl sc J (p^m-1) (Eh step (p^m) tl sc J s).1:=by
     show(if _ then _ else if _ then _ else _)=_
     rw[if_neg (fun h=>h h0),if_neg (by rw[hc];decide)]
    rw[e];obtain⟨k1,k2,k3⟩:=PB (p:=p) (m:=m) (ml:=ml) (l1:=l1) (l2:=l2) (step:=step) (b:=b) hl hK (j:=J) (fun a s h1 h2 h3=>aA J a s ac hc h1 h2 h3) (p^m-1) (Nat.le_refl _) (Eh step (p^m) tl sc J s).1 ac;refine⟨ac,?_,fun pl sl hT h1 h2 h3=>?_⟩
    .rcases k2 with h|⟨h,a,a1,a2,hf⟩
     .exact .inl h
     .exact .inr ⟨h,J,a,ac,hf⟩
    .by_cases h5:pl.getD tl.length 0<J
     .have:=(i3 pl sl hT h1 h2 h5).1;rw[h0]at this;cases this
     .obtain⟨a,a1,a2,b1,b2,_,_,c1,c2⟩:=hT.step hK;exact k3 pl sl hT h1 h2 ac ac
  .have e:Eh step (p^m) tl sc (J+1) s=Eh step (p^m) tl sc J s:=by
    show(if _ then _ else if _ then _ else _)=_
    rw[if_pos h0]
   rw[e];rcases i2 with h|⟨h,j,a,hj,hf⟩
   .exact absurd h h0
   .refine⟨ac,.inr ⟨h,j,a,ac,hf⟩,fun pl sl hT h1 h2 h3=>?_⟩;by_cases h5:pl.getD tl.length 0<J
    .exact i3 pl sl hT h1 h2 h5
    .exact⟨h,hf.lex hl hK h1 h2 (.inl ac)⟩
theorem SK(hW:QU p m ml n l1 l2):∀d tl sc s,Yf (p^m) n tl sc->tl.length+d=n->s.1+O8 (n*(p^m-1)) d<=65536->XS p m ml l1 l2 n (O8 (n*(p^m-1)) d) s.1 tl sc (Mj p m ml l1 l2 n d s tl sc)
 | d,tl,sc,s,hv,hd,hs=>by
  have hb1:1<=O8 (n*(p^m-1)) d:=by cases d <;> simp[O8]
  have aA:=hW.wit (sc:=sc) hv.rngB;unfold Mj;rw[if_neg ac];simp only;by_cases h1:0<=(Fb p m ml l1 l2 tl sc).1
  .rw[if_pos h1];refine⟨by show s.1+1<=_;omega,.inl rfl,fun pl sl hT e1 e2=>?_⟩;have hc:=hT.compat hW.hp (K:=tl.length) ac;rw[e1,e2]at hc;have:=aA.2 hc;omega
  .have hc:=aA.1 ac;rw[if_neg h1];by_cases h2:tl.length=n
   .rw[if_pos h2];refine⟨by show s.1+1<=_;omega,.inr ⟨rfl,?_⟩,fun pl sl hT e1 e2=>⟨rfl,?_⟩⟩
    .simp only[Fx];exact⟨hv,h2,List.take_length,by rw[<-hv.len];exact List.take_length,hc⟩
    .simp only[Fx];refine⟨n,Nat.le_refl _,fun k hk=>⟨?_,?_⟩,.inl rfl⟩
     .show tl.getD k 0=_
      rw[<-e1,Cn ac]
     .show sc.getD k 0=_
      rw[<-e2,Cn ac]
   .rw[if_neg h2]
    cases d with
    | zero=>omega
    | succ d=>
     simp only;have hB:O8 (n*(p^m-1)) (d+1)=1+n*((p^m-1)*O8 (n*(p^m-1)) d):=by
      show 1+n*(p^m-1)*O8 (n*(p^m-1)) d=_
      rw[Nat.mul_assoc]
     have hK:tl.length<n:=ac;obtain⟨k1,k2,k3⟩:=Py (p:=p) (m:=m) (ml:=ml) (l1:=l1) (l2:=l2) (n:=n) (step:=Mj p m ml l1 l2 n d) (b:=O8 (n*(p^m-1)) d) hv.len hK (fun j a s hj aB h1 h2 h3=>SK hW d _ _ s (hv.snoc hj aB h1 ac) (by rw[List.length_append];show tl.length+1+d=n;omega) h3) n (Nat.le_refl _) (s.1+1,s.2 ++ [⟨tl,sc,(Fb p m ml l1 l2 tl sc).1,J0 l1.length l2.length (Fb p m ml l1 l2 tl sc)⟩]) (by show s.1+1+_<=_;omega);refine⟨by rw[hB];have k1':_<=s.1+1+_:=k1;omega,?_,fun pl sl hT e1 e2=>?_⟩
     .rcases k2 with h|⟨h,j,a,hj,hf⟩
      .exact .inl h
      .exact .inr ⟨h,(hf.back hv.len).1⟩
     .have:=hT.inj.lt tl.length hK;have hnn:=hT.nn tl.length hK;unfold BF at this;exact k3 pl sl hT e1 e2 ac
end
def Mb(es:List Rf):Prop:=es.length<=4000/\∀i,i<es.length->(es.getD i LK).msg.length<=100
theorem Rt(w:World)(es:List Rf)(ev:Value)(hr:O9 w ev es):
  Calls Tryz.prog 68 #[.agg #[ev]] w fun r w'=>SC (Mb es) r/\Ex w w':=by
 have b0:=boxRf w ev;have e0:=AI w (.cells #[ev] 94);obtain⟨za,zc,rfl,z1,z2,z3⟩:=Im (hr.ex e0);unfold maxLen at z1;have Z3:=Aa z3;have aC:=Aa e0;obtain⟨P,hP⟩:=nA (Mb es);have HP:=Aa (show P↔es.length<=4000/\∀i,i<es.length->(es.getD i LK).msg.length<=100 from by rw[<-hP];exact Iff.rfl);rw[hP];clear z3 hr e0 hP;by_cases h4:4000<es.length
 .have k4:decide ((4000:Int)<(es.length:Int))=true:=by simp;omega
  have j4:(4000:Int)<(es.length:Int):=ac;have HN:=Aa (show ¬P from fun h=>by have:=(HP.o.1 h).1;omega);clear h4;go_enter Tryz.func68,Tryz.ntmps68
  go_wp2_with fail
  go_ret;exact⟨CF HN.o,aC.o⟩
 .have k4:decide ((4000:Int)<(es.length:Int))=false:=by simp;omega
  have j4:¬(4000:Int)<(es.length:Int):=ac;have H4:=Aa (show es.length<=4000 from ac);clear h4;go_enter Tryz.func68,Tryz.ntmps68
  go_wp2_with fail
  obtain⟨q,hq⟩:=nA w.heap.size;rw[hq]at b0
  try simp only[hq]
  clear hq;generalize w.alloc (.cells #[.slice za es.length zc] 94)=w1 at *;have B1:=Aa b0;clear b0
  go_loopw [4] (fun j' wr=>∃(j:Nat),j<=es.length/\j'= .int .i64 j/\Hia (∀i,i<j->(es.getD i LK).msg.length<=100)/\Hia (Ex w1 wr)) (fun j' _=>es.length-(intOf j').toNat)
  case atStart=>exact⟨0,ac,rfl,Aa (fun i h=>ac),Aa (Ex.refl _)⟩
  case round=>
   obtain⟨j,hj,rfl,aB,aA⟩:=hrel;have b1:=aA.o.cell B1.o;by_cases hjl:j<es.length
   .obtain⟨zb,zo,rfl,aD⟩:=Z3.o ac;obtain⟨mv,c0,c1,c2,c3,hm⟩:=aD j hjl;have c0:=aA.o.cell c0;have c1:=aA.o.cell c1;have c2:=aA.o.cell c2;have c3:=aA.o.cell c3;obtain⟨l,hl⟩:=nA ((es.getD j LK).msg);rw[hl]at hm;obtain⟨oa,oc,rfl,_,o2,_⟩:=hm.open;unfold maxLen at o2;have i1:(0:Int)<=(j:Int):=by omega
    have i2:(j:Int)<(es.length:Int):=ac;have HL:=Aa hl;have HJ:=Aa hjl;clear hl hm aD;by_cases h1:100<l.length
    .have k1:decide ((100:Int)<(l.length:Int))=true:=by simp;omega
     have j1:(100:Int)<(l.length:Int):=ac;have HN:=Aa (show ¬P from fun h=>by have:=(HP.o.1 h).2 j HJ.o;rw[HL.o]at this;omega);clear h1;go_wp2_with fail
     go_ret;exact⟨CF HN.o,aC.o.trans aA.o⟩
    .have k1:decide ((100:Int)<(l.length:Int))=false:=by simp;omega
     have j1:¬(100:Int)<(l.length:Int):=ac;have HA:=Aa (show ∀i,i<j+1->(es.getD i LK).msg.length<=100 from fun i hi=>by
      by_cases e:i=j
      .rw[e,HL.o];omega
      .exact aB.o i ac)
     clear h1;exact zbs
   .have HN:=Aa (show P from HP.o.2 ⟨H4.o,fun i hi=>aB.o i ac⟩);obtain rfl:j=es.length:=by omega
    go_wp2_with fail
    go_ret;exact⟨FI HN.o,aC.o.trans aA.o⟩
theorem Rx(w:World)(p m:Int)(ml:List Int)(mv:Value)(aJ:Al w mv ml)(p' m':Int)(aA:List Int)(aF:Value)(aC:Al w aF aA):
  Calls Tryz.prog 94 #[.agg #[p,m,mv],.agg #[p',m',aF]] w fun r w'=>r= .returned (.bool (CA p m ml p' m' aA))/\Ex w w':=by
 obtain⟨a0,a1,a2,ea,-⟩:=AA w p m mv;obtain⟨b0,b1,b2,eb,-⟩:=AA (w.alloc (.cells #[p,m,mv] 24)) p' m' aF;replace a0:=eb.cell a0;replace a1:=eb.cell a1;replace a2:=eb.cell a2;have aH:(w.alloc (.cells #[p,m,mv] 24)).heap.size=w.heap.size+1:=ag;rw[aH]at b0 b1 b2;have HE:=Aa (ea.trans eb);obtain⟨ma,mc,rfl,m1',m2,m3⟩:=aJ.open;obtain⟨na,nc,rfl,-,n2,n3⟩:=aC.open;unfold maxLen at m2 n2;obtain⟨R,hR⟩:=nA (CA p m ml p' m' aA);rw[hR];have M3:=Aa m3;have N3:=Aa n3;have HR:=Aa hR;clear aJ aC aH ea eb m3 n3 hR;go_enter Tryz.func94,Tryz.ntmps94
 by_cases h1:p=p'
 .have aP:(p !=p')=false:=by simpa using h1
  by_cases h2:m=m'
  .have aO:(m !=m')=false:=by simpa using h2
   by_cases h3:ml.length=aA.length
   .have b3:((ml.length:Int) !=(aA.length:Int))=false:=by simp;omega
    subst h1;subst h2;have hn:∃n,ml.length=n:=⟨_,rfl⟩;have aL:=Aa (show R=true↔ml=aA from by rw[<-HR.o,Db];simp);have H3:=Aa h3;rw[<-h3]at a0 a1 a2 b0 b1 b2 HE ⊢;clear h3 b3 hn;go_wp2_with fail
    generalize (w.alloc (.cells #[p,m,.slice ma ml.length mc] 24)).alloc (.cells #[p,m,.slice na ml.length nc] 24)=w1 at *;have A2:=Aa a2;have B2:=Aa b2
    go_loopw [5] (fun i' wr=>∃(i:Nat),i<=ml.length/\i'= .int .i64 i/\(∀j,j<i->ml.getD j 0=aA.getD j 0)/\Hia (Ex w1 wr)) (fun i' _=>ml.length-(intOf i').toNat)
    case atStart=>exact⟨0,ac,rfl,fun j hj=>ac,Aa (Ex.refl _)⟩
    case round=>
     obtain⟨i,hi,rfl,aD,aB⟩:=hrel;have aM:=Aa aD;clear aD a0 a1 b0 b1;by_cases hin:i<ml.length
     .obtain⟨mb,mo,rfl,aK⟩:=M3.o ac;obtain⟨nb,no,rfl,aI⟩:=N3.o (by have:=H3.o;omega);have c1:=aB.o.cell (HE.o.cell (aK i _ (show ml[i]?=some (ml.getD i 0) from by rw[List.getD_eq_getElem?_getD,List.getElem?_eq_getElem hin];rfl)));have c2:=aB.o.cell (HE.o.cell (aI i _ (show aA[i]?=some (aA.getD i 0) from by rw[List.getD_eq_getElem?_getD,List.getElem?_eq_getElem (by have:=H3.o;omega)];rfl)));have f2:=aB.o.cell A2.o;have g2:=aB.o.cell B2.o;have j1:(0:Int)<=(i:Int):=by omega
      have j2:(i:Int)<(ml.length:Int):=ac;have aN:m2=m2:=rfl;obtain⟨x,hx⟩:=nA (ml.getD i 0);obtain⟨y,hy⟩:=nA (aA.getD i 0);rw[hx]at c1;rw[hy]at c2;have aE:=Aa (show x=ml.getD i 0/\y=aA.getD i 0 from⟨hx.symm,hy.symm⟩);clear hx hy aK aI a2 b2 aN;by_cases hxy:x=y
      .have aQ:=Aa (show ∀j,j<i+1->ml.getD j 0=aA.getD j 0 from fun j hj=>by
        by_cases e:j=i
        .subst e;rw[<-aE.o.1,<-aE.o.2,hxy]
        .exact aM.o j ac)
       have bb:(x !=y)=false:=by simp[hxy]
       have aG:y=x:=hxy.symm;subst aG;clear hxy;go_upto_region 6 with fail
       go_quiet (fail)
       go_wp2_with fail
       go_roundw
       case rel=>exact⟨i+1,ac,by go_num,aQ.o,Aa (aB.o.drewN _)⟩
       case measure=>simp[intOf];omega
      .have bb:(x !=y)=true:=by simpa using hxy
       have hr:R=false:=Bool.eq_false_iff.2 fun h=>hxy (by rw[aE.o.1,aE.o.2,aL.o.1 h]);subst hr;have aG:¬y=x:=fun h=>hxy h.symm;go_upto_region 6 with fail
       go_quiet (fail)
       go_wp2_with fail
       go_ret;exact⟨rfl,HE.o.trans (aB.o.drewN _)⟩
     .obtain rfl:i=ml.length:=by omega
      have f2:=aB.o.cell A2.o;exact zbk
   .exact zal
  .have aO:(m !=m')=true:=by simpa using h2
   exact zbD
 .have aP:(p !=p')=true:=by simpa using h1
  exact zbF
def Pu(c d:AT):Bool:=CA c.p c.m c.ml d.p d.m d.ml&&(decide (c.n=d.n)&&decide (c.rows=d.rows))
theorem VE{c d:AT}:Pu c d=true↔c=d:=by
 obtain⟨p,m,ml,n,rows⟩:=c;obtain⟨p',m',ml',n',rows'⟩:=d;simp only[Pu,Bool.and_eq_true,decide_eq_true_eq,Db,AT.mk.injEq];constructor
 .rintro⟨⟨h1,h2,h3⟩,h4,h5⟩;exact⟨h1,h2,h3,h4,h5⟩
 .rintro⟨h1,h2,h3,h4,h5⟩;exact⟨⟨h1,h2,h3⟩,h4,h5⟩
theorem RA(w:World)(c d:AT)(m1 m2 v1 v2:Value)(hc:c.at w m1 v1)(hd:d.at w m2 v2):
  Calls Tryz.prog 40 #[c.arg m1 v1,d.arg m2 v2] w fun r w'=>r= .returned (.bool (Pu c d))/\Ex w w':=by
 obtain⟨c0,c1,c2,c3,c4⟩:=CY w c m1 v1;obtain⟨d0,d1,d2,d3,d4⟩:=CY (w.alloc (c.obj m1 v1)) d m2 v2;have aH:(w.alloc (c.obj m1 v1)).heap.size=w.heap.size+1:=ag;have e1:=AI w (c.obj m1 v1);have e2:=AI (w.alloc (c.obj m1 v1)) (d.obj m2 v2);rw[aH]at d0 d1 d2 d3 d4;replace c0:=e2.cell c0;replace c1:=e2.cell c1;replace c2:=e2.cell c2;replace c3:=e2.cell c3;replace c4:=e2.cell c4;have aB:=e1.trans e2;have aF:=Aa (Rx _ c.p c.m c.ml m1 ((hc.ex aB).m) d.p d.m d.ml m2 ((hd.ex aB).m));have aK:=Aa (fun (w':World) (h:Ex ((w.alloc (c.obj m1 v1)).alloc (d.obj m2 v2)) w')=>Dz w' c.rows d.rows v1 v2 ((hc.ex (aB.trans h)).g) ((hd.ex (aB.trans h)).g));obtain⟨x1,y1,rfl,-,z1,-⟩:=hc.g.open;obtain⟨x2,y2,rfl,-,z2,-⟩:=hd.g.open;obtain⟨x3,y3,rfl,-,z3,-⟩:=hc.m.open;obtain⟨x4,y4,rfl,-,z4,-⟩:=hd.m.open;have HX:=Aa aB;obtain⟨p,m,ml,n,rows⟩:=c;obtain⟨p',m',aE,n',aA⟩:=d;obtain⟨B,hB⟩:=nA w.heap.size;rw[hB]at c0 c1 c2 c3 c4 d0 d1 d2 d3 d4;obtain⟨F,hF⟩:=nA (CA p m ml p' m' aE);have aI:=Aa (show Pu ⟨p,m,ml,n,rows⟩ ⟨p',m',aE,n',aA⟩=(F&&(decide (n=n')&&decide (rows=aA))) from by rw[<-hF];rfl);rw[aI.o];clear aI;dsimp only[AT.arg,AT.obj]at *;rw[hF]at aF;clear hF;clear hc hd e1 e2 aB aH z1 z2 z3 z4;go_enter Tryz.func40,Tryz.ntmps40
 go_upto_region 1 with fail
 try simp only[hB]
 clear hB;generalize (w.alloc (.cells #[p,m,.slice x3 ml.length y3,n,.slice x1 rows.length y1] 39)).alloc (.cells #[p',m',.slice x4 aE.length y4,n',.slice x2 aA.length y2] 39)=wB at *;have aG:=Aa (fun w' (h:Ex wB w')=>(⟨h.cell c3,h.cell c4,h.cell d3,h.cell d4⟩:_/\_/\_/\_))
 cases F with
 | false=>
  go_wp2_with fail
  refine aF.o.mono ?_;rintro e w2⟨rfl,aD⟩;have aC:=Aa (HX.o.trans aD);clear c0 c1 c2 c3 c4 d0 d1 d2 d3 d4 aD;go_wp2_with fail
  go_ret;exact⟨rfl,aC.o⟩
 | true=>
  go_wp2_with fail
  refine aF.o.mono ?_;rintro e w2⟨rfl,aD⟩;have aC:=Aa aD;clear c0 c1 c2 c3 c4 d0 d1 d2 d3 d4 aD;obtain⟨c3,c4,d3,d4⟩:=aG.o w2 aC.o;by_cases hn:n=n'
  .subst hn;have k1:(n==n)=true:=by simp
   have HR:=Aa (aK.o w2 aC.o);obtain⟨D,hD⟩:=nA (decide (rows=aA));rw[hD]at HR;have HD:=Aa hD;clear hD;go_wp2_with fail
   refine HR.o.mono ?_;rintro e w3⟨rfl,n3,rfl⟩;have aJ:=Aa ((Ex.refl w2).drewN n3);go_wp2_with fail
   go_ret;refine⟨?_,HX.o.trans (aC.o.trans aJ.o)⟩;have:=HD.o;simp[this]
  .have k1:(n==n')=false:=by simpa using hn
   have HN:=Aa hn;clear hn;go_wp2_with fail
   go_ret;refine⟨?_,HX.o.trans aC.o⟩;have:=HN.o;simp[this]
section
open Go.Shelf
def Tryz.lays189_ren:Go.Shelf.Ren:=⟨fun | 189=>125 | 125=>178 | 257=>177 | 128=>221 | 129=>222 | 294=>212 | 295=>213 | 296=>214 | 297=>215 | 298=>216 | 299=>217 | 216=>218 | 300=>219 | 301=>220 | 328=>255 | 329=>256 | 330=>257 | 331=>258 | 332=>259 | 215=>260 | 343=>267|n=>n,fun | 28=>22 | 3=>3 | 46=>146 | 0=>0 | 51=>91 | 53=>77 | 4=>4 | 183=>248 | 182=>247 | 131=>253 | 5=>5 | 9=>9 | 218=>278 | 222=>282 | 228=>289 | 229=>203|n=>n,fun|n=>n⟩
open Go.Proofs.Tryz in
theorem Tryz.lays189:Go.Proofs.Lays.n189 Tryz.prog Tryz.lays189_ren:= {
 mixed:=ah
 f125:=func178.trans (congrArg some ah)
 f128:=func221.trans (congrArg some ah)
 f129:=func222.trans (congrArg some ah)
 f189:=func125.trans (congrArg some ah)
 f215:=func260.trans (congrArg some ah)
 f216:=func218.trans (congrArg some ah)
 f257:=func177.trans (congrArg some ah)
 f294:=func212.trans (congrArg some ah)
 f295:=func213.trans (congrArg some ah)
 f296:=func214.trans (congrArg some ah)
 f297:=func215.trans (congrArg some ah)
 f298:=func216.trans (congrArg some ah)
 f299:=func217.trans (congrArg some ah)
 f300:=func219.trans (congrArg some ah)
 f301:=func220.trans (congrArg some ah)
 f328:=func255.trans (congrArg some ah)
 f329:=func256.trans (congrArg some ah)
 f330:=func257.trans (congrArg some ah)
 f331:=func258.trans (congrArg some ah)
 f332:=func259.trans (congrArg some ah)
 f343:=func267.trans (congrArg some ah)
 t0:=underlying0
 a0:=isAgg0
 z0:=sizeOf0
 v0:=zeroValue0
 t3:=underlying3
 a3:=isAgg3
 z3:=sizeOf3
 v3:=zeroValue3
 t4:=underlying4
 a4:=isAgg4
 z4:=sizeOf4
 v4:=zeroValue4
 t5:=underlying5
 a5:=isAgg5
 z5:=sizeOf5
 v5:=zeroValue5
 t9:=underlying9
 a9:=isAgg9
 z9:=sizeOf9
 v9:=zeroValue9
 t28:=underlying22
 a28:=isAgg22
 z28:=sizeOf22
 v28:=zeroValue22
 t46:=underlying146
 a46:=isAgg146
 z46:=sizeOf146
 v46:=zeroValue146
 t51:=underlying91
 a51:=isAgg91
 z51:=sizeOf91
 v51:=zeroValue91
 t53:=underlying77
 a53:=isAgg77
 z53:=sizeOf77
 v53:=zeroValue77
 t131:=underlying253
 a131:=isAgg253
 z131:=sizeOf253
 v131:=zeroValue253
 t182:=underlying247
 a182:=isAgg247
 z182:=sizeOf247
 v182:=zeroValue247
 t183:=underlying248
 a183:=isAgg248
 z183:=sizeOf248
 v183:=zeroValue248
 t218:=underlying278
 a218:=isAgg278
 z218:=sizeOf278
 v218:=zeroValue278
 t222:=underlying282
 a222:=isAgg282
 z222:=sizeOf282
 v222:=zeroValue282
 t228:=underlying289
 a228:=isAgg289
 z228:=sizeOf289
 v228:=zeroValue289
 t229:=underlying203
 a229:=isAgg203
 z229:=sizeOf203
 v229:=zeroValue203 }
open Go.Sort Go.RowKit in
theorem Tryz.slices_Sort_int (blk aA cap:Nat) (zs:List Int) (w:World) (hH:Holds (Value.int .i64) w blk aA zs.toArray) (aB:blk<w.heap.size) (aC:zs.length<4611686018427387904):
  Calls Tryz.prog 125 #[.slice (some ⟨blk,aA,none⟩) zs.length cap] w fun e w'=>
   e= .returned (.tuple #[])/\∃n os,w'=grow (putRow (Value.int .i64) (Sort.ahead w n) blk aA (zs.mergeSort fun x y=>decide (x<=y)).toArray) os:=Any.slices_Sort_int Tryz.lays189 blk aA cap zs w hH aB aC
end
def X9(P:Prop)(r:Ending):Prop:=∃b:Bool,r= .returned (.bool b)/\(b=true↔P)
theorem GR{P:Prop}(h:¬P):X9 P (.returned (.bool false)):=⟨false,rfl,⟨fun h=>bi,fun k=>absurd k h⟩⟩
theorem U5{P:Prop}(h:P):X9 P (.returned (.bool true)):=⟨true,rfl,⟨fun _=>h,fun _=>rfl⟩⟩
theorem Zm{l k:Lv}(h1:l.pt=k.pt)(h2:l.orb=k.orb)(h3:l.reps=k.reps):l=k:=by
 cases l;cases k
 simp only at h1 h2 h3;rw[h1,h2,h3]
theorem bh{P:Prop}(h:P:=by first|exact HN.o|exact fun h=>HN.o h.2):P:=h
theorem Rs(w:World)(d1 d2:Int)(L K:List Lv)(lv kv:Value)(hL:DX w lv L)(hK:DX w kv K):
  Calls Tryz.prog 26 #[.agg #[d1,lv],.agg #[d2,kv]] w fun r w'=>X9 (d1=d2/\L=K) r/\Ex w w':=by
 obtain⟨b0,b1,e0⟩:=BO w d1 lv;obtain⟨f0,f1,e1⟩:=BO (w.alloc (.cells #[d1,lv] 43)) d2 kv;have b0:=e1.cell b0;have b1:=e1.cell b1;have aS:(w.alloc (.cells #[d1,lv] 43)).heap.size=w.heap.size+1:=ag;rw[aS]at f0 f1;obtain⟨za,zc,rfl,z1,z2,z3⟩:=(hL.ex (e0.trans e1)).open3;obtain⟨ya,yc,rfl,y1,y2,y3⟩:=(hK.ex (e0.trans e1)).open3;unfold maxLen at z2 y2;have Z3:=Aa z3;have Y3:=Aa y3;have aG:=Aa (e0.trans e1);clear z3 y3 hL hK e0 e1 aS;by_cases hd:d1=d2
 .subst hd;have aZ:(d1 !=d1)=false:=by simp
  by_cases hlen:L.length=K.length
  .have aX:((L.length:Int) !=(K.length:Int))=false:=by simp;omega
   have aV:=Aa hlen;clear hlen;go_enter Tryz.func26,Tryz.ntmps26
   go_wp2_with fail
   obtain⟨q,hq⟩:=nA w.heap.size;rw[hq]at b0 b1 f0 f1
   try simp only[hq]
   clear hq;generalize (w.alloc (.cells #[d1,.slice za L.length zc] 43)).alloc (.cells #[d1,.slice ya K.length yc] 43)=w1 at *;have B1:=Aa b1;have F1:=Aa f1;clear b0 b1 f0 f1
   go_loopw [5] (fun j' wr=>∃(j:Nat),j<=L.length/\j'= .int .i64 j/\Hia (∀i,i<j->L[i]?=K[i]?)/\Hia (Ex w1 wr)) (fun j' _=>L.length-(intOf j').toNat)
   case atStart=>exact⟨0,ac,rfl,Aa (fun i h=>ac),Aa (Ex.refl _)⟩
   case round=>
    obtain⟨j,hj,rfl,aB,aA⟩:=hrel;have b1:=aA.o.cell B1.o;have f1:=aA.o.cell F1.o;by_cases hjl:j<L.length
    .obtain⟨l,hl⟩:∃l,L[j]?=some l:=⟨_,List.getElem?_eq_getElem hjl⟩;have aY:j<K.length:=by have:=aV.o;omega
     obtain⟨k,hk⟩:∃k,K[j]?=some k:=⟨_,List.getElem?_eq_getElem aY⟩;obtain⟨zb,zo,rfl,aQ⟩:=Z3.o ac;obtain⟨yb,yo,rfl,aR⟩:=Y3.o ac;obtain⟨u,r,c0,c1,c2,hu,hr⟩:=aQ j l hl;obtain⟨v,s,g0,g1,g2,hv,hs⟩:=aR j k hk;have c0:=aA.o.cell c0;have c1:=aA.o.cell c1;have c2:=aA.o.cell c2;have g0:=aA.o.cell g0;have g1:=aA.o.cell g1;have g2:=aA.o.cell g2;obtain⟨oa,oc,rfl,_,_,_⟩:=hu.open;obtain⟨ra,rc,rfl,_,_,_⟩:=hr.open;obtain⟨pa,pc,rfl,_,_,_⟩:=hv.open;obtain⟨sa,sc,rfl,_,_,_⟩:=hs.open;have i1:(0:Int)<=(j:Int):=bf;have i2:(j:Int)<(L.length:Int):=ac;have i3:(j:Int)<(K.length:Int):=ac;obtain⟨p,hp⟩:=nA l.pt;rw[hp]at c0;obtain⟨t,ht⟩:=nA k.pt;rw[ht]at g0;obtain⟨HU,HR,HV,HS,aJ,aK,aT,aU⟩:=On (hu.ex aA.o) (hr.ex aA.o) (hv.ex aA.o) (hs.ex aA.o) hl hk hp ht;clear hl hk hp ht hu hr hv hs aQ aR;have bP:=fun o=>((Ex.refl wr).alloc o).cell b1;have bO:=fun o o2=>(((Ex.refl wr).alloc o).alloc o2).cell b1;have bH:=fun o=>((Ex.refl wr).alloc o).cell f1;have bG:=fun o o2=>(((Ex.refl wr).alloc o).alloc o2).cell f1;have bN:=fun o=>((Ex.refl wr).alloc o).cell c0;have bM:=fun o o2=>(((Ex.refl wr).alloc o).alloc o2).cell c0;have bL:=fun o=>((Ex.refl wr).alloc o).cell c1;have bK:=fun o o2=>(((Ex.refl wr).alloc o).alloc o2).cell c1;have bJ:=fun o=>((Ex.refl wr).alloc o).cell c2;have bI:=fun o o2=>(((Ex.refl wr).alloc o).alloc o2).cell c2;have bF:=fun o=>((Ex.refl wr).alloc o).cell g0;have bE:=fun o o2=>(((Ex.refl wr).alloc o).alloc o2).cell g0;have bD:=fun o=>((Ex.refl wr).alloc o).cell g1;have bC:=fun o o2=>(((Ex.refl wr).alloc o).alloc o2).cell g1;have bB:=fun o=>((Ex.refl wr).alloc o).cell g2;have bA:=fun o o2=>(((Ex.refl wr).alloc o).alloc o2).cell g2;go_upto_region 6 with fail
     go_cut [6,7] from 29 to 59 (fun s6 s7 wx=>∃B1 B2:Nat,s6= .pointer (some ⟨B1,0,none⟩)/\s7= .pointer (some ⟨B2,0,none⟩)/\Hia (wx.cell? (B1,0)=some (.int .i64 p)/\wx.cell? (B1,1)=some (.slice oa l.orb.length oc)/\wx.cell? (B1,2)=some (.slice ra l.reps.length rc))/\Hia (wx.cell? (B2,0)=some (.int .i64 t)/\wx.cell? (B2,1)=some (.slice pa k.orb.length pc)/\wx.cell? (B2,2)=some (.slice sa k.reps.length sc))/\Hia (Ex wr wx))
     case first=>
      go_region
      all_goals go_wp2_with fail
      all_goals go_meet
      all_goals exact⟨_,_,rfl,rfl,Aa ⟨ag,ag,ag⟩,Aa ⟨ag,ag,ag⟩,Aa (((Ex.refl wr).alloc _).alloc _).drew⟩
     case rest=>
      obtain⟨B1,B2,rfl,rfl,hA,hB,aC⟩:=hcut;clear b1 f1 c0 c1 c2 g0 g1 g2 bP bO bH bG bN bM bL bK bJ bI bF bE bD bC bB bA;obtain⟨a0,a1,a2⟩:=hA.o;obtain⟨g0,g1,g2⟩:=hB.o;have aO:=Aa (show(L[j]?≠K[j]?)->¬(L=K) from fun h e=>h cj);by_cases hpt:p=t
      .subst hpt;have aW:(p !=p)=false:=by simp
       have A2:=Aa a2;have G2:=Aa g2;have aF:=DA wc l.orb k.orb _ _ (HU.o.ex aC.o) (HV.o.ex aC.o);by_cases DV:l.orb=k.orb
       .rw[decide_eq_true DV]at aF;have aL:=Aa aF;clear aF;by_cases hre:l.reps=k.reps
        .have HE:=Aa (show L[j]?=K[j]? from by
          rw[aJ.o,aK.o,Zm (aT.o.trans aU.o.symm) DV hre])
         have aP:=Aa (show ∀i,i<j+1->L[i]?=K[i]? from fun i hi=>by
          by_cases e:i=j
          .subst e;exact HE.o
          .exact aB.o i ac)
         have aN:=Aa (decide_eq_true hre);clear DV hre aB;go_wp2_with (first|(go_at_call 19;refine aL.o.mono ?_;rintro e w6⟨rfl,n6,aE⟩;have X6:=(show Ex wc w6 from by rw[aE];exact(Ex.refl _).drewN n6);have a2:=X6.cell A2.o;have g2:=X6.cell G2.o;have aD:=Dz w6 l.reps k.reps _ _ ((HR.o.ex aC.o).ex X6) ((HS.o.ex aC.o).ex X6);rw[aN.o]at aD;have aD:=Aa aD;have aI:=Aa X6;clear aE X6)|(go_at_call 27;refine aD.o.mono ?_;rintro e w7⟨rfl,n7,aH⟩;have aM:=Aa (aI.o.trans (show Ex w6 w7 from by rw[aH];exact(Ex.refl w6).drewN n7));clear aH))
         go_roundw
         case rel=>exact⟨j+1,ac,by go_num,aP,Aa (aA.o.trans (aC.o.trans aM.o))⟩
         case measure=>simp[intOf];omega
        .have HN:=Aa (aO.o (by
          rw[aJ.o,aK.o];intro e;injection e with e;exact hre cj))
         have aN:=Aa (decide_eq_false hre);clear DV hre aB;go_wp2_with (first|(go_at_call 19;refine aL.o.mono ?_;rintro e w6⟨rfl,n6,aE⟩;have X6:=(show Ex wc w6 from by rw[aE];exact(Ex.refl _).drewN n6);have a2:=X6.cell A2.o;have g2:=X6.cell G2.o;have aD:=Dz w6 l.reps k.reps _ _ ((HR.o.ex aC.o).ex X6) ((HS.o.ex aC.o).ex X6);rw[aN.o]at aD;have aD:=Aa aD;have aI:=Aa X6;clear aE X6)|(go_at_call 27;refine aD.o.mono ?_;rintro e w7⟨rfl,n7,aH⟩;have aM:=Aa (aI.o.trans (show Ex w6 w7 from by rw[aH];exact(Ex.refl w6).drewN n7));clear aH))
         go_ret;exact⟨GR bh,aG.o.trans (aA.o.trans (aC.o.trans aM.o))⟩
       .have HN:=Aa (aO.o (by
         rw[aJ.o,aK.o];intro e;injection e with e;exact DV cj))
        rw[decide_eq_false DV]at aF;have aL:=Aa aF;clear aF DV aB;go_wp2_with (go_at_call 19;refine aL.o.mono ?_;rintro e w6⟨rfl,n6,aE⟩;have aI:=Aa (show Ex wc w6 from by rw[aE];exact(Ex.refl _).drewN n6);clear aE)
        go_ret;exact⟨GR bh,aG.o.trans (aA.o.trans (aC.o.trans aI.o))⟩
      .have aW:(p !=t)=true:=by simpa using hpt
       have HN:=Aa (aO.o (by
        rw[aJ.o,aK.o];intro e;injection e with e;have e1:=aT.o;have e2:=aU.o;exact hpt (by rw[<-e1,<-e2,e])))
       clear hpt;go_wp2_with fail
       go_ret;exact⟨GR bh,aG.o.trans (aA.o.trans aC.o)⟩
    .obtain rfl:j=L.length:=by omega
     have HR:=Aa (show L=K from Te aV.o aB.o);go_wp2_with fail
     go_ret;exact⟨U5 (by first|exact HR.o|exact⟨trivial,HR.o⟩|exact⟨rfl,HR.o⟩),aG.o.trans aA.o⟩
  .have aX:((L.length:Int) !=(K.length:Int))=true:=by simp;omega
   have HN:=Aa (show ¬L=K from fun e=>hlen cj);clear hlen;go_enter Tryz.func26,Tryz.ntmps26
   go_wp2_with fail
   go_ret;exact⟨GR bh,aG.o⟩
 .have aZ:(d1 !=d2)=true:=by simpa using hd
  have HN:=Aa (show ¬(d1=d2/\L=K) from fun ⟨e,_⟩=>hd e);clear hd;go_enter Tryz.func26,Tryz.ntmps26
  go_wp2_with fail
  go_ret;exact⟨GR HN.o,aG.o⟩
theorem zcV{P:Prop}(h:P:=by
 clear aE aA;go_wp2_with fail
 go_ret;exact⟨⟨_,rfl,HR.o⟩,aC.o⟩):P:=h
theorem Ht(w:World)(p m:Int)(ml:List Int)(mv:Value)(aD:Al w mv ml)(n:Int)(rows:List (List Int))(v:Value)(hv:BZ w v rows):
  Calls Tryz.prog 37 #[.agg #[p,m,mv,n,v]] w fun r w'=>(∃e:Int,r= .returned (.int .i64 e)/\BI p m ml n rows e)/\Ex w w':=by
 obtain⟨a0,a1,a2,a3,a4,ea⟩:=EN w p m mv n v;have aG:=Aa (fun (w':World) (h:Ex w w')=>Hu p m ml mv w' (aD.ex h));have aE:=Aa (fun (w':World) (h:Ex w w')=>Ry p m ml mv w' (aD.ex h) n rows v (hv.ex h));obtain⟨za,zc,rfl,-,z2,-⟩:=hv.open;unfold maxLen at z2;obtain⟨ma,mc,rfl,-,m2,-⟩:=aD.open;unfold maxLen at m2;have HE:=Aa ea;obtain⟨F,hF⟩:=nA (Ce p m ml);have aJ:F=0∨F=1:=by
  rw[<-hF];unfold Ce;split <;> omega
 have aA:=Aa (show ∀e,((F≠0/\e=1)∨(F=0/\ET n≠0/\e=ET n)∨(F=0/\ET n=0/\Mt p m ml n rows e))->BI p m ml n rows e from fun e h=>by unfold BI;rw[hF];exact h);rw[hF]at aG;clear aD hv ea hF;go_enter Tryz.func37,Tryz.ntmps37
 go_wp2_with fail
 obtain⟨xb,aF⟩:=nA w.heap.size;rw[aF]at a0 a1 a2 a3 a4
 try simp only[aF]
 clear aF;generalize w.alloc (.cells #[p,m,.slice ma ml.length mc,n,.slice za rows.length zc] 39)=w1 at *;refine(aG.o w1 HE.o).mono ?_;rintro e w2⟨rfl,aB⟩;obtain⟨A0,A1,A2,A3,A4,aC⟩:=To (aB.cell a0) (aB.cell a1) (aB.cell a2) (aB.cell a3) (aB.cell a4) (HE.o.trans aB);clear a0 a1 a2 a3 a4 aB aG HE;rcases aJ with h1|h1
 .subst h1;have a3:=A3.o;by_cases h2:n<1
  .have HR:=Aa (aA.o 4 (.inr (.inl ⟨rfl,by unfold ET;rw[if_pos (.inl h2)];decide,by unfold ET;rw[if_pos (.inl h2)]⟩)));exact zcV
  .by_cases h3:64<n
   .have HR:=Aa (aA.o 4 (.inr (.inl ⟨rfl,by unfold ET;rw[if_pos (.inr h3)];decide,by unfold ET;rw[if_pos (.inr h3)]⟩)));clear aE aA;have b1:decide (n<1)=false:=by simp;omega
    go_wp2_with fail
    go_ret;exact⟨⟨_,rfl,HR.o⟩,aC.o⟩
   .have aH:=Aa (fun e h=>aA.o e (.inr (.inr ⟨rfl,by unfold ET;rw[if_neg ac],h⟩)));have b1:decide (n<1)=false:=by simp;omega
    have b2:decide (64<n)=false:=aq;have a0:=A0.o;have a1:=A1.o;have a2:=A2.o;have a4:=A4.o;clear aA;go_wp2_with fail
    refine(aE.o w2 aC.o).mono ?_;rintro e w3⟨⟨e,rfl,he⟩,aI⟩;have HR:=Aa (aH.o e he);have aK:=Aa (aC.o.trans aI);clear he aI;go_wp2_with fail
    go_ret;exact⟨⟨_,rfl,HR.o⟩,aK.o⟩
 .subst h1;have HR:=Aa (aA.o 1 (.inl ⟨ae,rfl⟩));exact zcV
section
variable {p m:Nat} {ml:List Int} {N k:Nat} {a:Nat->Nat->Int} {piv:List Nat} {c:Nat} {f:Nat->Int}
end
section
variable {n:Nat} {S:List (Nat->Nat)}
end
end Go.Proofs.YtehieobniamagaaGreat
