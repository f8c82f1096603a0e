/- Walks of the reference's Unit, Then, Back. -/
import Derived.Test.YtehieobniamagaaGreatZi23
namespace Go.Proofs.YtehieobniamagaaGreat
open Nat renaming le_refl→ζ,pow_pos→ϕ,not_lt_zero→ζf,sub_self→ηf
open Classical renaming byContradiction→Γ
open List renaming getElem_of_mem→χ,getD_eq_getElem?_getD→δ,getElem?_eq_getElem→γ,contains_iff_mem→γv,any_eq_true→ϗ,mem_range→κ,getElem_mem→Ϙ,getElem?_take_of_lt→ιn,length_take→δr,getElem_take→ηp,take_add_one→γd,range_zero→νb,append_nil→ζp,append_assoc→ηo,length_append→ν
open Go.RowKit
set_option linter.all false
set_option maxRecDepth 100000
set_option maxHeartbeats 8000000
section
variable {p m:Nat} {ml:List Int} {mv:Value}
end
section
variable {p m:Nat} {ml:List Int} {mv:Value}
end
section
variable {p m:Int} {mv:Value}
end
section
variable {p m:Nat} {low:Vc}
theorem Xb(hp:2<=p)(hm:1<=m){x:Nat}(hx:x<p^m):BN p m low x 1=x:=by
 show Am p m low 1 x=x
 exact Cr hp hm hx
theorem Xc(hp:2<=p)(hm:1<=m)(x y:Nat):∀e,BN p m low (Am p m low x y) e=Am p m low (BN p m low x e) (BN p m low y e)
 | 0=>by
  show 1=Am p m low 1 1
  rw[Cr hp hm (BC hp hm)]
 | e+1=>by
  show Am p m low (BN p m low (Am p m low x y) e) (Am p m low x y)=Am p m low (Am p m low (BN p m low x e) x) (Am p m low (BN p m low y e) y)
  have h1:1<=p:=ac;rw[Xc hp hm x y e,Bt h1,<-Bt h1 (BN p m low y e),AY (BN p m low y e) x,Bt h1 x,<-Bt h1]
theorem TS(hp:2<=p)(hm:1<=m){x:Nat}(hx:x<p^m):∀k,TT p m low x k=BN p m low x (p^k)
 | 0=>by rw[Nat.pow_zero,Xb hp hm hx];rfl
 | k+1=>by
  show BN p m low (TT p m low x k) p=_
  rw[TS hp hm hx k,Oq hp hm,Nat.pow_succ]
theorem TF(hp:2<=p)(hm:1<=m)(hF:Hc p m low){x:Nat}(h1:1<=x)(hx:x<p^m):∀e,1<=BN p m low x e
 | 0=>ζ _
 | e+1=>hF.ne_zero hp hm (TF hp hm hF h1 hx e) (Dq hp hm x e) h1 hx
theorem TR(hp:2<=p)(hm:1<=m)(hF:Hc p m low){x:Nat}(h1:1<=x)(hx:x<p^m)(k:Nat):1<=TT p m low x k:=by
 rw[TS hp hm hx];exact TF hp hm hF h1 hx _
end
structure Bv(p m:Nat)(ml pl sl:List Int)(fr N:Nat):Prop where
 hp:2<=p
 hm:1<=m
 hF:Hc p m (lw ml)
 n1:1<=N
 n2:N<=64
 pll:pl.length=N
 sll:sl.length=N
 inj:FX N (BJ pl)
 sc:∀i,i<N->∃z:Nat,sl.getD i 0=z/\1<=z/\z<p^m
 frm:fr<m
theorem Z0{pl:List Int}{N:Nat}(hl:pl.length=N)(hr:BW pl N=true)(hd:G8 pl=false):FX N (BJ pl):=by
 refine⟨fun i hi=>?_,fun i j hi hj e=>Γ fun aA=>?_⟩
 .have:=EV hr (i:=i) ac;unfold BJ;omega
 .have h1:=EV hr (i:=i) ac;have h2:=EV hr (i:=j) ac;have:G8 pl=true:=LB.2 (by
   unfold BJ at e;rcases Nat.lt_or_gt_of_ne aA with h|h
   .exact⟨j,i,h,ac,ac⟩
   .exact⟨i,j,h,ac,ac⟩)
  rw[hd]at this;cases this
theorem K8{p m:Int}{ml:List Int}{n:Int}{pl sl:List Int}{fr:Int}(h:Ef p m ml n pl sl fr=0):
  ∃(pn mn N fn:Nat),p=pn/\m=mn/\n=N/\fr=fn/\Gg pn mn ml/\Cm p m ml=0/\Bv pn mn ml pl sl fn N:=by
 obtain⟨n0,n1,n2,n3,n4,n5,n6,n7,n8,n9⟩:=RY h;obtain⟨pn,mn,rfl,rfl,hf,hpr,hF⟩:=(BU _ _ _).1 n0;obtain⟨fn,rfl⟩:∃fn:Nat,fr=fn:=⟨fr.toNat,ac⟩;obtain⟨N,rfl⟩:∃N:Nat,n=N:=⟨n.toNat,ac⟩;exact⟨pn,mn,N,fn,rfl,rfl,rfl,rfl,hf,n0,hf.p2,hf.m1,hF,ac,ac,ac,ac,Z0 ac n5 n8,fun i hi=>fac_at (by simpa only[Int.toNat_natCast]using n9) ac,ac⟩
theorem TX{q:Nat}{l:List Int}(h:∀i,i<l.length->∃z:Nat,l.getD i 0=z/\1<=z/\z<q):Iz q l=0:=by
 unfold Iz;have aA:∀x∈l,∃z:Nat,x=z/\1<=z/\z<q:=fun x hx=>by
  obtain⟨i,hi,rfl⟩:=χ hx;have:=h i hi;rw[δ,γ hi]at this;exact this
 rw[if_neg,if_neg]
 .intro hc;rw[γv]at hc;obtain⟨z,h1,h2,_⟩:=aA 0 hc;omega
 .intro hc;obtain⟨x,hx,h1⟩:=ϗ.1 hc;obtain⟨z,rfl,h2,h3⟩:=aA x hx;unfold GU at h1;simp at h1;omega
section
variable {p m:Nat} {ml pl sl:List Int} {fr N:Nat} {x:List Int}
theorem Bv.img(h:Bv p m ml pl sl fr N){i:Nat}(hi:i<N):Lk p m ml pl sl fr x N (BJ pl i)=vF p m ml sl fr x i:=KW h.inj _ N (ζ _) i hi
theorem CZ{N j:Nat}(h:j<N)(f:Nat->Int):(il N f).getD j 0=f j:=by
 rw[δ,AT h];rfl
theorem Bv.imgE(h:Bv p m ml pl sl fr N){j:Nat}(hj:j<N):∃z:Nat,Lk p m ml pl sl fr x N j=z/\z<p^m:=by
 obtain⟨i,hi,rfl⟩:=h.inj.surj hj;rw[h.img hi];exact⟨_,rfl,A7 (by have:=h.hp;omega) _ _⟩
end
section
variable {p m:Nat} {ml pl sl ql tl:List Int} {fr fs N:Nat} {x:List Int}
theorem FX.comp{π σ:Nat->Nat}(h:FX N π)(k:FX N σ):FX N (fun i=> σ (π i)):=
 ⟨fun i hi=>k.lt _ (h.lt i hi),fun i j hi hj e=>h.inj i j hi hj (k.inj _ _ (h.lt i hi) (h.lt j hj) e)⟩
theorem LR(h:Bv p m ml pl sl fr N){i:Nat}(hi:i<N):BJ (il N (cP pl ql)) i=BJ ql (BJ pl i):=by
 unfold BJ;rw[CZ hi];rfl
theorem Yg(h:Bv p m ml pl sl fr N)(k:Bv p m ml ql tl fs N):Bv p m ml (il N (cP pl ql)) (il N (cS p m ml pl sl tl fs)) ((fr+fs)%m) N where
 hp:=h.hp
 hm:=h.hm
 hF:=h.hF
 n1:=h.n1
 n2:=h.n2
 pll:=Ao _ _
 sll:=Ao _ _
 inj:=by
  have hc:=h.inj.comp k.inj;exact⟨fun i hi=>by rw[LR h hi];exact hc.lt i hi,fun i j hi hj e=>by rw[LR h hi,LR h hj]at e;exact hc.inj i j hi hj e⟩
 sc:=fun i hi=>by
  rw[CZ hi];obtain⟨s,hs,aD,aA⟩:=h.sc i hi;obtain⟨t,ht,aC,aB⟩:=k.sc _ (h.inj.lt i hi);refine⟨_,rfl,?_,A7 (by have:=h.hp;omega) _ _⟩;rw[hs,ht,AE aA,AE aB];exact h.hF.ne_zero h.hp h.hm aC aB (TR h.hp h.hm h.hF aD aA fs) (OJ h.hp h.hm aA fs)
 frm:=Nat.mod_lt _ (by have:=h.hm;omega)
theorem Lh(h:Bv p m ml pl sl fr N)(v:Nat->Int){i:Nat}(hi:i<N):(il N (plc (BJ pl) v N)).getD (BJ pl i) 0=v i:=by
 rw[CZ (h.inj.lt i hi)];exact KW h.inj v N (ζ _) i hi
theorem Ot(hp:2<=p)(hm:1<=m)(hF:Hc p m (lw ml)){s:Nat}(h1:1<=s)(hq:s<p^m):1<=Eg p m ml s/\Eg p m ml s<p^m/\Am p m (lw ml) s (Eg p m ml s)=1:=by
 obtain⟨z,a,b,c⟩:=hF.inv hp hm h1 hq;rw[Ou hp hm hF hq h1 b c];exact⟨a,b,c⟩
theorem Lg(h:Bv p m ml pl sl fr N){i:Nat}(hi:i<N):BJ (il N (plc (BJ pl) (fun i=>(i:Int)) N)) (BJ pl i)=i:=by
 unfold BJ;have:=Lh h (fun i=>(i:Int)) hi;unfold BJ at this;rw[this];rfl
theorem Xl(h:Bv p m ml pl sl fr N)(bk:Nat)(aE:bk<m):Bv p m ml (il N (plc (BJ pl) (fun i=>(i:Int)) N)) (il N (plc (BJ pl) (ivS p m ml sl bk) N)) bk N where
 hp:=h.hp
 hm:=h.hm
 hF:=h.hF
 n1:=h.n1
 n2:=h.n2
 pll:=Ao _ _
 sll:=Ao _ _
 inj:=⟨fun j hj=>by
  obtain⟨i,hi,rfl⟩:=h.inj.surj hj;rw[Lg h hi];exact hi,fun j j' hj aC e=>by
  obtain⟨i,hi,rfl⟩:=h.inj.surj hj;obtain⟨i',aD,rfl⟩:=h.inj.surj aC;rw[Lg h hi,Lg h aD]at e;rw[e]⟩
 sc:=fun j hj=>by
  obtain⟨i,hi,rfl⟩:=h.inj.surj hj;rw[Lh h _ hi];obtain⟨s,hs,aB,aA⟩:=h.sc i hi;obtain⟨k1,k2,-⟩:=Ot h.hp h.hm h.hF aB aA;refine⟨_,rfl,?_,OJ h.hp h.hm ?_ _⟩
  .rw[hs,AE aA];exact TR h.hp h.hm h.hF k1 k2 _
  .rw[hs,AE aA];exact k2
 frm:=aE
theorem Z4(h:Bv p m ml pl sl fr N):∀i,i<N->∃z:Nat,(il N (Lk p m ml pl sl fr x N)).getD i 0=z/\z<p^m:=fun i hi=>by
 rw[CZ hi];exact h.imgE hi
end
def Jt(p m N:Nat)(f:Nat->Int):Prop:=∀j,j<N->0<=f j/\f j<((p^m:Nat):Int)
section
variable {p m:Nat} {ml:List Int} {N:Nat}
theorem UM(hp:1<=p)(x:Int)(u r:Nat->Int):KO p m ml x u r=Cn p m ml u (CL p m (Av (p^m) x)) r:=by
 funext j;unfold KO Cn;rw[Vj hp]
theorem Zt(hp:2<=p){u r:Nat->Int}{pl:Nat}{x:Nat->Int}(hx:dt p m ml N r x=0):dt p m ml N (Mn p m ml u pl r) x=dt p m ml N u x:=by
 unfold Mn;split
 .rfl
 .rw[UM ac,Su hp,hx,Bc ac,Ce ac (QL hp _ _)]
theorem Wr(hp:2<=p){u r:Nat->Int}{pl:Nat}(hu:Jt p m N u):Jt p m N (Mn p m ml u pl r):=by
 unfold Mn;split
 .exact hu
 .intro j hj;unfold KO;split
  .exact hu j hj
  .have:=GT (m:=m) (show 1<=p by omega) (Av (p^m) (u j)) (CL p m (Am p m (lw ml) (Av (p^m) (u pl)) (Av (p^m) (r j))));omega
theorem N0(hp:2<=p){a:Nat->Nat->Int}{pl:Nat->Nat}{v x:Nat->Int}:∀k,B9 p m ml N k a x->dt p m ml N (N4 p m ml a pl v k) x=dt p m ml N v x
 | 0,_=>rfl
 | k+1,h=>by
  show dt p m ml N (Mn p m ml (N4 p m ml a pl v k) (pl k) (a k)) x=_
  rw[Zt hp (h k (by omega))];exact N0 hp k fun i hi=>h i (by omega)
theorem KM(hp:2<=p){a:Nat->Nat->Int}{pl:Nat->Nat}{v:Nat->Int}(hv:Jt p m N v):∀k,Jt p m N (N4 p m ml a pl v k)
 | 0=>hv
 | k+1=>Wr hp (KM hp hv k)
theorem Ij(hp:2<=p)(hm:1<=m){n:Nat}{a:Nat->Nat->Int}{pl:Nat->Nat}{v:Nat->Int}(h:VR N a pl n):∀k,k<=n->∀j,j<k->N4 p m ml a pl v k (pl j)=0
 | 0,_,j,hj=>by omega
 | k+1,hk,j,hj=>by
  show Mn p m ml (N4 p m ml a pl v k) (pl k) (a k) (pl j)=0
  unfold Mn;split
  .rename_i h0;by_cases e:j=k
   .rw[e];exact h0
   .exact Ij hp hm h k (by omega) j (by omega)
  .unfold KO;by_cases e:j=k
   .rw[e,h.one k (by omega),if_neg (by decide),FO hp hm,BD hp hm (Cb (ϕ (by omega)) _),CW (by omega)];rfl
   .rw[h.zer k j (by omega) (by omega),if_pos rfl];exact Ij hp hm h k (by omega) j (by omega)
theorem Qs{pr:Nat->Bool}{n:Nat}:CG pr n<0↔∀j,j<n->pr j=false:=by
 have h:=Eh pr n;constructor
 .intro h0;rw[decide_eq_false ac]at h;intro j hj
  cases e:pr j with
  | false=>rfl
  | true=>
   have:(List.range n).any pr=true:=ϗ.2 ⟨j,κ.2 hj,e⟩;rw[h]at this;cases this
 .intro ha;rw[Cf ha];decide
theorem fstI_at{pr:Nat->Bool}{n:Nat}(h:0<=CG pr n):(CG pr n).toNat<n/\pr (CG pr n).toNat=true/\∀j,j<(CG pr n).toNat->pr j=false:=by
 unfold CG at h ⊢;split
 .rename_i i hi;rw[List.find?_range_eq_some]at hi;refine⟨by have:=κ.1 hi.2.1;simpa using this,by simpa using hi.1,fun j hj=>?_⟩;have:=hi.2.2 j (by simpa using hj);simpa using this
 .rename_i hn;rw[hn]at h;exact absurd h ae
theorem Tx{t:Nat}{v:Nat->Int}:Mq t v<0↔∀j,j<t->v j=0:=by
 unfold Mq;rw[Qs];exact⟨fun h j hj=>by simpa using h j hj,fun h j hj=>by simpa using h j hj⟩
theorem lzI_at{t:Nat}{v:Nat->Int}(h:0<=Mq t v):(Mq t v).toNat<t/\v (Mq t v).toNat≠0:=by
 obtain⟨h1,h2,-⟩:=fstI_at h;refine⟨h1,?_⟩;have h3:(v (Mq t v).toNat !=0)=true:=h2;simpa using h3
structure Q7(p m:Nat)(ml:List Int)(N k:Nat)(rows:Nat->Nat->Int)(e:Mg):Prop where
 ech:VR N e.a e.pl e.n
 sol:∀x,B9 p m ml N e.n e.a x↔B9 p m ml N k rows x
theorem B9.succ_iff{k:Nat}{rows:Nat->Nat->Int}{x:Nat->Int}:B9 p m ml N (k+1) rows x↔B9 p m ml N k rows x/\dt p m ml N (rows k) x=0:=
 ⟨fun h=>⟨fun i hi=>h i ac,h k ac⟩,fun h i hi=>by
  by_cases e:i=k
  .rw[e];exact h.2
  .exact h.1 i ac⟩
theorem Zf(hp:2<=p)(hm:1<=m)(hF:Hc p m (lw ml)){k:Nat}{rows:Nat->Nat->Int}{e:Mg}(h:Q7 p m ml N k rows e)(hr:Jt p m N (rows k)):Q7 p m ml N (k+1) rows (Gl p m ml N e (rows k)):=by
 have aJ:0<p^m:=ϕ ac;have aD:Jt p m N (e.red p m ml (rows k)):=KM hp hr _;have aF:∀x,B9 p m ml N e.n e.a x->dt p m ml N (e.red p m ml (rows k)) x=dt p m ml N (rows k) x:=fun x hx=>N0 hp _ hx;unfold Gl;split
 .rename_i hz;obtain⟨aC,aI⟩:=lzI_at hz;generalize hZ:(Mq N (e.red p m ml (rows k))).toNat=z at aC aI;obtain⟨r1,r2⟩:=aD z aC;have hk0:((Av (p^m) (e.red p m ml (rows k) z):Nat):Int)=e.red p m ml (rows k) z:=Gu r1 r2;have aL:1<=Av (p^m) (e.red p m ml (rows k) z):=by omega
  have aK:Av (p^m) (e.red p m ml (rows k) z)<p^m:=Cb aJ _;obtain⟨c,hc⟩:=nA (ivz p m ml (Av (p^m) (e.red p m ml (rows k) z)));have aG:Am p m (lw ml) c (Av (p^m) (e.red p m ml (rows k) z))=1:=by
   rw[<-hc];unfold ivz;rw[if_neg ac,AY];exact Le hp hm hF aL aK
  rw[hc];have aH:∀j,j<e.n->e.red p m ml (rows k) (e.pl j)=0:=fun j hj=>Ij hp hm h.ech _ (ζ _) j hj;have aE:∀j,j<e.n->Ay e.pl e.n z j=e.pl j:=fun j hj=>Ac _ _ ac;have aB:∀j,j<e.n->Ay e.a e.n (BT p m ml c (e.red p m ml (rows k))) j=e.a j:=fun j hj=>Ac _ _ ac;refine⟨⟨fun i hi=>?_,fun i hi=>?_,fun i j hj hi=>?_⟩,fun x=>?_⟩
  .simp only at hi ⊢;by_cases ei:i=e.n
   .rw[ei,Ab];exact aC
   .rw[aE i ac];exact h.ech.lt i ac
  .simp only at hi ⊢;by_cases ei:i=e.n
   .rw[ei,Ab,Ab];show((Am p m (lw ml) c (Av (p^m) (e.red p m ml (rows k) z)):Nat):Int)=1
    rw[aG];rfl
   .rw[aE i ac,aB i ac];exact h.ech.one i ac
  .simp only at hi ⊢;rw[aE j ac];by_cases ei:i=e.n
   .rw[ei,Ab];show((Am p m (lw ml) c (Av (p^m) (e.red p m ml (rows k) (e.pl j))):Nat):Int)=0
    rw[aH j ac,CN,Bc ac];rfl
   .rw[aB i ac];exact h.ech.zer i j hj ac
  .simp only;rw[B9.succ_iff (k:=e.n),B9.succ_iff (k:=k),Ab,Ya hp];have e1:B9 p m ml N e.n (Ay e.a e.n (BT p m ml c (e.red p m ml (rows k)))) x↔B9 p m ml N e.n e.a x:=
    ⟨fun h i hi=>by rw[<-aB i hi];exact h i hi,fun h i hi=>by rw[aB i hi];exact h i hi⟩
   rw[e1];constructor
   .rintro⟨a1,a2⟩;refine⟨(h.sol x).1 a1,?_⟩;rw[<-aF x a1];apply Γ;intro hne;have hcl:c≠0:=fun h0=>by
     rw[h0,BY ac]at aG;cases aG
    have aM:c<p^m:=by
     apply Γ;intro aA;rw[<-hc]at aA;unfold ivz at aA;rw[if_neg ac]at aA;exact aA (Kb ac _)
    have:=hF.ne_zero hp hm (a:=c) (b:=dt p m ml N (e.red p m ml (rows k)) x) ac aM ac (QL hp _ _);omega
   .rintro⟨a1,a2⟩;have a3:=(h.sol x).2 a1;exact⟨a3,by rw[aF x a3,a2,Bc ac]⟩
 .rename_i hz;have h0:=Tx.1 (Int.not_le.1 hz);refine⟨h.ech,fun x=>?_⟩;rw[B9.succ_iff (k:=k),h.sol x];refine⟨fun a=>⟨a,?_⟩,fun a=>a.1⟩;rw[<-aF x ((h.sol x).2 a)];exact GX hp h0
theorem Ro(hp:2<=p)(hm:1<=m)(hF:Hc p m (lw ml)){rows:Nat->Nat->Int}{K:Nat}(hr:∀i,i<K->Jt p m N (rows i)):∀k,k<=K->Q7 p m ml N k rows (Hf p m ml N rows k)
 | 0,_=>⟨⟨fun i hi=>absurd hi (ζf i),fun i hi=>absurd hi (ζf i),fun i j _ hi=>absurd hi (ζf i)⟩,fun x=>⟨fun _ i hi=>absurd hi (ζf i),fun _ i hi=>absurd hi (ζf i)⟩⟩
 | k+1,hk=>Zf hp hm hF (Ro hp hm hF hr k (by omega)) (hr k (by omega))
theorem Q7.red_iff(hp:2<=p)(hm:1<=m){k:Nat}{rows:Nat->Nat->Int}{e:Mg}(h:Q7 p m ml N k rows e){v:Nat->Int}(hv:Jt p m N v):Mq N (e.red p m ml v)<0↔Cl p m ml N k rows v:=by
 rw[Tx];have aA:∀x,B9 p m ml N e.n e.a x->dt p m ml N (e.red p m ml v) x=dt p m ml N v x:=fun x hx=>N0 hp _ hx;constructor
 .intro h0 x hx;rw[<-aA x ((h.sol x).2 hx)];exact GX hp h0
 .intro hc j hj;have:=VR.zero (ml:=ml) hp hm h.ech (fun i hi=>Ij hp hm h.ech _ (ζ _) i hi) (fun x hx=>by
   show dt p m ml N (e.red p m ml v) x=0
   rw[aA x hx];exact hc x ((h.sol x).1 hx)) hj
  obtain⟨r1,r2⟩:=KM (ml:=ml) (a:=e.a) (pl:=e.pl) hp hv e.n j hj;have e2:=Gu r1 r2;rw[this]at e2;exact e2.symm
theorem P6(hp:2<=p)(hm:1<=m){k n:Nat}{rows l:Nat->Nat->Int}{e:Mg}(h:Q7 p m ml N k rows e)(hl:∀i,i<n->Jt p m N (l i)):Ja p m ml N e l n<0↔∀i,i<n->Cl p m ml N k rows (l i):=by
 unfold Ja;rw[Qs];constructor
 .intro h0 i hi;have:=h0 i hi;rw[decide_eq_false_iff_not]at this;exact(h.red_iff hp hm (hl i hi)).1 ac
 .intro h0 i hi;rw[decide_eq_false_iff_not];have:=(h.red_iff hp hm (hl i hi)).2 (h0 i hi);omega
end
section
variable {p m:Nat} {ml:List Int} {N:Nat}
theorem Tr(hp:2<=p)(sc:List Int)(x:Nat->Int)(N:Nat):Jt p m N (F7 p m ml sc x):=fun j _=>by
 have:=A7 (m:=m) (low:=lw ml) (show 1<=p by omega) (Av (p^m) (sc.getD j 0)) (Av (p^m) (x j));unfold F7;omega
theorem Tb{tl:List Int}{y:Nat->Int}{n:Nat}(hr:BW tl n=true)(hy:Jt p m n y):Jt p m tl.length (IX tl y):=fun j hj=>by
 have:=EV hr hj;exact hy _ ac
theorem KJ{l:List (List Int)}{n:Nat}(hl:∀r∈l,r.length=n/\Ct (p^m) r=0){i:Nat}(hi:i<l.length):Jt p m n (An l i):=fun j hj=>by
 have h1:l.getD i []=l[i]:=aw;obtain⟨h2,h3⟩:=hl _ (Ϙ hi);unfold An;rw[h1];exact Ly h3 _ (by rw[δ,γ ac];exact Ϙ _)
def Ph(p m:Nat)(ml:List Int)(l1 l2:List (List Int))(tl sc:List Int):Prop:=
 ∀x,B9 p m ml tl.length l2.length (fun i=>IX tl (An l2 i)) x↔B9 p m ml tl.length l1.length (fun i=>F7 p m ml sc (An l1 i)) x
structure VN(p m:Nat)(ml:List Int)(n:Nat)(l1 l2:List (List Int)):Prop where
 hp:2<=p
 hm:1<=m
 hF:Hc p m (lw ml)
 h1:∀r∈l1,r.length=n/\Ct (p^m) r=0
 h2:∀r∈l2,r.length=n/\Ct (p^m) r=0
variable {l1 l2:List (List Int)} {n:Nat} {tl sc:List Int}
theorem VN.spL(h:VN p m ml n l1 l2)(t:Nat)(sc:List Int):Q7 p m ml t l1.length (fun i=>F7 p m ml sc (An l1 i)) (Hf p m ml t (fun i=>F7 p m ml sc (An l1 i)) l1.length):=
 Ro h.hp h.hm h.hF (K:=l1.length) (fun i _=>Tr h.hp _ _ _) _ (ζ _)
theorem VN.spR(h:VN p m ml n l1 l2)(hr:BW tl n=true):Q7 p m ml tl.length l2.length (fun i=>IX tl (An l2 i)) (Hf p m ml tl.length (fun i=>IX tl (An l2 i)) l2.length):=
 Ro h.hp h.hm h.hF (K:=l2.length) (fun i hi=>Tb hr (KJ h.h2 hi)) _ (ζ _)
theorem VN.mis0(h:VN p m ml n l1 l2)(hr:BW tl n=true):Ja p m ml tl.length (Hf p m ml tl.length (fun i=>IX tl (An l2 i)) l2.length) (fun i=>F7 p m ml sc (An l1 i)) l1.length<0↔∀x,B9 p m ml tl.length l2.length (fun i=>IX tl (An l2 i)) x->B9 p m ml tl.length l1.length (fun i=>F7 p m ml sc (An l1 i)) x:=by
 rw[P6 h.hp h.hm (h.spR hr) fun i _=>Tr h.hp _ _ _];exact Cl.sol_iff
theorem VN.mis1(h:VN p m ml n l1 l2)(hr:BW tl n=true):Ja p m ml tl.length (Hf p m ml tl.length (fun i=>F7 p m ml sc (An l1 i)) l1.length) (fun i=>IX tl (An l2 i)) l2.length<0↔∀x,B9 p m ml tl.length l1.length (fun i=>F7 p m ml sc (An l1 i)) x->B9 p m ml tl.length l2.length (fun i=>IX tl (An l2 i)) x:=by
 rw[P6 h.hp h.hm (h.spL _ sc) fun i hi=>Tb hr (KJ h.h2 hi)];exact Cl.sol_iff
theorem VN.wit(h:VN p m ml n l1 l2)(hr:BW tl n=true):(E3 p m ml l1 l2 tl sc).1<0↔Ph p m ml l1 l2 tl sc:=by
 have e0:=h.mis0 (sc:=sc) hr;have e1:=h.mis1 (sc:=sc) hr;unfold E3;simp only;split
 .rename_i h0;refine⟨fun h=>absurd h ag,fun hc=>?_⟩;have:=e0.2 fun x hx=>(hc x).1 hx;omega
 .rename_i h0;split
  .rename_i h1;refine⟨fun h=>absurd h ag,fun hc=>?_⟩;have:=e1.2 fun x hx=>(hc x).2 hx;omega
  .rename_i h1;refine⟨fun _ x=>⟨e0.1 ac x,e1.1 ac x⟩,fun _=>ag⟩
end
theorem Qf{p m:Nat}(hp:1<=p){g:Nat->Nat}{K:Nat}:∀n,K<=n->(∀j,K<=j->j<n->g j=0)->ks p m g n=ks p m g K
 | 0,h,_=>by
   obtain rfl:K=0:=ac;rfl
 | n+1,h,hz=>by
  by_cases e:K=n+1
  .rw[e]
  .show AK p m (ks p m g n) (g n)=_
   rw[hz n ac ac,Ce hp (ks_lt hp _ _)];exact Qf hp n ac fun j h1 h2=>hz j h1 ac
theorem QK{p m:Nat}{ml:List Int}(hp:1<=p){n K:Nat}(hK:K<=n)(f x:Nat->Int):dt p m ml n f (fun i=>if i<K then x i else 0)=dt p m ml K f x:=by
 rw[Hj,Hj,Qf hp n hK fun j h1 _=>by
  show Am p m (lw ml) _ (Av (p^m) (if j<K then x j else 0))=0
  rw[if_neg ac,CN,Bc hp]]
 exact Gs K fun j hj=>by rw[if_pos hj]
structure AW(p m:Nat)(ml:List Int)(n:Nat)(l1 l2:List (List Int))(pl sl:List Int):Prop where
 pll:pl.length=n
 sll:sl.length=n
 nn:∀i,i<n->0<=pl.getD i 0
 inj:FX n (BJ pl)
 sc:∀i,i<n->∃z:Nat,sl.getD i 0=z/\1<=z/\z<p^m
 sol:∀x,B9 p m ml n l2.length (An l2) x↔B9 p m ml n l1.length (fun i=>plc (BJ pl) (F7 p m ml sl (An l1 i)) n) x
section
variable {p m:Nat} {ml:List Int} {n:Nat} {l1 l2:List (List Int)} {pl sl:List Int}
theorem Cp{l:List Int}{K j:Nat}(hj:j<K):(l.take K).getD j 0=l.getD j 0:=by
 rw[δ,ιn hj,<-δ]
theorem AW.rng(h:AW p m ml n l1 l2 pl sl)(K:Nat):BW (pl.take K) n=true:=by
 unfold BW;refine List.all_eq_true.2 fun x hx=>?_;obtain⟨i,hi,rfl⟩:=χ (List.mem_of_mem_take hx);have h1:=h.nn i (by have:=h.pll;omega);have h2:=h.inj.lt i (by have:=h.pll;omega);unfold BJ at h2;have e:pl.getD i 0=pl[i]:=by rw[δ,γ hi];rfl
 rw[e]at h1 h2;simp;omega
theorem AW.compat(h:AW p m ml n l1 l2 pl sl)(hp:2<=p){K:Nat}(hK:K<=n):Ph p m ml l1 l2 (pl.take K) (sl.take K):=by
 have hl:(pl.take K).length=K:=by rw[δr,h.pll];omega
 intro x;rw[hl];have hz:∀i,i<n->plc (BJ pl) (fun i=>if i<K then x i else 0) n (BJ pl i)=if i<K then x i else 0:=fun i hi=>KW h.inj _ n (ζ _) i hi;have e2:∀i,dt p m ml n (An l2 i) (plc (BJ pl) (fun i=>if i<K then x i else 0) n)=dt p m ml K (IX (pl.take K) (An l2 i)) x:=fun i=>by
  rw[Kj,OR ac h.inj,Kj,QK ac hK];refine GC (fun j hj=>?_) fun _ _=>rfl;unfold IX BJ;rw[Cp hj]
 have e1:∀i,dt p m ml n (plc (BJ pl) (F7 p m ml sl (An l1 i)) n) (plc (BJ pl) (fun i=>if i<K then x i else 0) n)=dt p m ml K (F7 p m ml (sl.take K) (An l1 i)) x:=fun i=>by
  rw[OR ac h.inj,GC (fun _ _=>rfl) hz,QK ac hK];refine GC (fun j hj=>?_) fun _ _=>rfl;unfold F7;rw[Cp hj]
 have:=h.sol (plc (BJ pl) (fun i=>if i<K then x i else 0) n);constructor
 .intro hx i hi;rw[<-e1 i];exact this.1 (fun i hi=>by rw[e2 i];exact hx i hi) i hi
 .intro hx i hi;rw[<-e2 i];exact this.2 (fun i hi=>by rw[e1 i];exact hx i hi) i hi
theorem AW.of(hp:2<=p)(h1:pl.length=n)(h2:sl.length=n)(h3:∀i,i<n->0<=pl.getD i 0)(h4:FX n (BJ pl))(h5:∀i,i<n->∃z:Nat,sl.getD i 0=z/\1<=z/\z<p^m)(hc:Ph p m ml l1 l2 pl sl):AW p m ml n l1 l2 pl sl:=by
 refine⟨h1,h2,h3,h4,h5,fun x=>?_⟩;have e2:∀i,dt p m ml n (IX pl (An l2 i)) (fun i=>x (BJ pl i))=dt p m ml n (An l2 i) x:=fun i=>by
  rw[Hj,Hj,<-h4.sum ac (g:=fun j=>Am p m (lw ml) (Av (p^m) (An l2 i j)) (Av (p^m) (x j))) fun j=>A7 ac _ _];rfl
 have e1:∀i,dt p m ml n (plc (BJ pl) (F7 p m ml sl (An l1 i)) n) x=dt p m ml n (F7 p m ml sl (An l1 i)) (fun i=>x (BJ pl i)):=fun i=>OR ac h4 _ _;have:=hc (fun i=>x (BJ pl i));rw[h1]at this;constructor
 .intro hx i hi;show dt p m ml n (plc (BJ pl) (F7 p m ml sl (An l1 i)) n) x=0
  rw[e1 i];exact this.1 (fun i hi=>by show dt p m ml n (IX pl (An l2 i)) _=0;rw[e2 i];exact hx i hi) i hi
 .intro hx i hi;rw[<-e2 i];exact this.2 (fun i hi=>by rw[<-e1 i];exact hx i hi) i hi
end
section
variable {σ:Type} {step:σ->List Int->List Int->σ × Int} {tl sc:List Int}
end
section
variable {p m:Nat} {ml:List Int} {n:Nat} {l1 l2:List (List Int)} {pl sl:List Int}
theorem AW.step(h:AW p m ml n l1 l2 pl sl){K:Nat}(hK:K<n):∃a:Nat,1<=a/\a<=p^m-1/\pl.getD K 0=((BJ pl K:Nat):Int)/\sl.getD K 0=(a:Int)/\BJ pl K<n/\(pl.take K).contains ((BJ pl K:Nat):Int)=false/\pl.take (K+1)=pl.take K ++ [((BJ pl K:Nat):Int)]/\sl.take (K+1)=sl.take K ++ [(a:Int)]:=by
 obtain⟨a,ha,a1,a2⟩:=h.sc K hK;have hn:=h.nn K hK;have e1:((BJ pl K:Nat):Int)=pl.getD K 0:=by unfold BJ;omega
 refine⟨a,a1,ac,e1.symm,ha,h.inj.lt K hK,?_,?_,?_⟩
 .cases hcon:(pl.take K).contains ((BJ pl K:Nat):Int) with
  | false=>rfl
  | true=>
   exfalso;have aA:=γv.1 hcon;obtain⟨i,hi,e⟩:=χ aA;rw[δr,h.pll]at hi;rw[ηp]at e;have e2:pl.getD i 0=pl[i]'(by have:=h.pll;omega):=by rw[δ,γ];rfl
   have:=h.inj.inj i K ac hK (by
    show(pl.getD i 0).toNat=_
    rw[e2,e];simp)
   omega
 .rw[γd,γ (by have:=h.pll;omega),e1,δ,γ (by have:=h.pll;omega)];rfl
 .rw[γd,γ (by have:=h.sll;omega),<-ha,δ,γ (by have:=h.sll;omega)];rfl
end
theorem RA(w:World)(p m:Int)(ml:List Int)(mv:Value)(aJ:Ak w mv ml)(p' m':Int)(aA:List Int)(aF:Value)(aC:Ak w aF aA):
  Calls Tryz.prog 94 #[.agg #[p,m,mv],.agg #[p',m',aF]] w fun r w'=>r= .returned (.bool (CE p m ml p' m' aA))/\Ex w w':=by
 obtain⟨a0,a1,a2,ea,-⟩:=AA w p m mv;obtain⟨b0,b1,b2,eb,-⟩:=AA (w.alloc (.cells #[p,m,mv] 24)) p' m' aF;replace a0:=eb.cell a0;replace a1:=eb.cell a1;replace a2:=eb.cell a2;have aH:(w.alloc (.cells #[p,m,mv] 24)).heap.size=w.heap.size+1:=ag;rw[aH]at b0 b1 b2;have HE:=Aa (ea.trans eb);obtain⟨ma,mc,rfl,m1',m2,m3⟩:=aJ.open;obtain⟨na,nc,rfl,-,n2,n3⟩:=aC.open;unfold maxLen at m2 n2;obtain⟨R,hR⟩:=nA (CE p m ml p' m' aA);rw[hR];have M3:=Aa m3;have N3:=Aa n3;have HR:=Aa hR;clear aJ aC aH ea eb m3 n3 hR;go_enter Tryz.func94,Tryz.ntmps94
 by_cases h1:p=p'
 .have aP:(p !=p')=false:=by simpa using h1
  by_cases h2:m=m'
  .have aO:(m !=m')=false:=by simpa using h2
   by_cases h3:ml.length=aA.length
   .have b3:((ml.length:Int) !=(aA.length:Int))=false:=by simp;omega
    subst h1;subst h2;have hn:∃n,ml.length=n:=⟨_,rfl⟩;have aL:Hia (R=true↔ml=aA):=Aa (by rw[<-HR.o,Dd];simp);have H3:=Aa h3;rw[<-h3]at a0 a1 a2 b0 b1 b2 HE ⊢;clear h3 b3 hn;go_wp2_with fail
    generalize (w.alloc (.cells #[p,m,(ma,ml.length,mc)] 24)).alloc (.cells #[p,m,(na,ml.length,nc)] 24)=w1 at *;have A2:=Aa a2;have B2:=Aa b2
    go_loopw [5] (fun i' wr=>∃(i:Nat),i<=ml.length/\i'= .int .i64 i/\(∀j,j<i->ml.getD j 0=aA.getD j 0)/\Hia (Ex w1 wr)) (fun i' _=>ml.length-(intOf i').toNat)
    case atStart=>exact⟨0,ac,rfl,fun j hj=>ac,Aa (Ex.refl _)⟩
    case round=>
     obtain⟨i,hi,rfl,aD,aB⟩:=hrel;have aM:=Aa aD;clear aD a0 a1 b0 b1;by_cases hin:i<ml.length
     .obtain⟨mb,mo,rfl,aK⟩:=M3.o ac;obtain⟨nb,no,rfl,aI⟩:=N3.o (by have:=H3.o;omega);have c1:=aB.o.cell (HE.o.cell (aK i _ (show ml[i]?=some (ml.getD i 0) from by rw[δ,γ hin];rfl)));have c2:=aB.o.cell (HE.o.cell (aI i _ (show aA[i]?=some (aA.getD i 0) from by rw[δ,γ (by have:=H3.o;omega)];rfl)));have f2:=aB.o.cell A2.o;have g2:=aB.o.cell B2.o;have j1:(0:Int)<=(i:Int):=by omega
      have j2:(i:Int)<(ml.length:Int):=ac;have aN:m2=m2:=rfl;obtain⟨x,hx⟩:=nA (ml.getD i 0);obtain⟨y,hy⟩:=nA (aA.getD i 0);rw[hx]at c1;rw[hy]at c2;have aE:=Aa (show x=ml.getD i 0/\y=aA.getD i 0 from⟨hx.symm,hy.symm⟩);clear hx hy aK aI a2 b2 aN;by_cases hxy:x=y
      .have aQ:Hia (∀j,j<i+1->ml.getD j 0=aA.getD j 0):=Aa (fun j hj=>by
        by_cases e:j=i
        .subst e;rw[<-aE.o.1,<-aE.o.2,hxy]
        .exact aM.o j ac)
       have bb:(x !=y)=false:=by simp[hxy]
       have aG:y=x:=hxy.symm;subst aG;clear hxy;go_upto_region 6 with fail
       go_quiet (fail)
       go_wp2_with fail
       go_roundw
       case rel=>exact⟨i+1,ac,by go_num,aQ.o,Aa (aB.o.drewN _)⟩
       case measure=>exact Ωm
      .have bb:(x !=y)=true:=by simpa using hxy
       have hr:R=false:=Bool.eq_false_iff.2 fun h=>hxy (by rw[aE.o.1,aE.o.2,aL.o.1 h]);subst hr;have aG:¬y=x:=fun h=>hxy h.symm;go_upto_region 6 with fail
       go_quiet (fail)
       go_wp2_with fail
       go_ret;exact⟨rfl,HE.o.trans (aB.o.drewN _)⟩
     .obtain rfl:i=ml.length:=by omega
      have f2:=aB.o.cell A2.o;exact zbo
   .exact zal
  .exact zaq
 .exact zar
def Wk(c d:AX):Bool:=CE c.p c.m c.ml d.p d.m d.ml&&(decide (c.n=d.n)&&decide (c.rows=d.rows))
theorem Wj{c d:AX}:Wk c d=true↔c=d:=by
 obtain⟨p,m,ml,n,rows⟩:=c;obtain⟨p',m',ml',n',rows'⟩:=d;simp only[Wk,Bool.and_eq_true,decide_eq_true_eq,Dd,AX.mk.injEq];constructor
 .rintro⟨⟨h1,h2,h3⟩,h4,h5⟩;exact⟨h1,h2,h3,h4,h5⟩
 .rintro⟨h1,h2,h3,h4,h5⟩;exact⟨⟨h1,h2,h3⟩,h4,h5⟩
theorem RE(w:World)(c d:AX)(m1 m2 v1 v2:Value)(hc:c.at w m1 v1)(hd:d.at w m2 v2):
  Calls Tryz.prog 40 #[c.arg m1 v1,d.arg m2 v2] w fun r w'=>r= .returned (.bool (Wk c d))/\Ex w w':=by
 obtain⟨c0,c1,c2,c3,c4⟩:=C8 w c m1 v1;obtain⟨d0,d1,d2,d3,d4⟩:=C8 (w.alloc (c.obj m1 v1)) d m2 v2;have aH:(w.alloc (c.obj m1 v1)).heap.size=w.heap.size+1:=ag;have e1:=AF w (c.obj m1 v1);have e2:=AF (w.alloc (c.obj m1 v1)) (d.obj m2 v2);rw[aH]at d0 d1 d2 d3 d4;replace c0:=e2.cell c0;replace c1:=e2.cell c1;replace c2:=e2.cell c2;replace c3:=e2.cell c3;replace c4:=e2.cell c4;have aB:=e1.trans e2;have aF:=Aa (RA _ c.p c.m c.ml m1 ((hc.ex aB).m) d.p d.m d.ml m2 ((hd.ex aB).m));have aK:=Aa (fun (w':World) (h:Ex ((w.alloc (c.obj m1 v1)).alloc (d.obj m2 v2)) w')=>DI w' c.rows d.rows v1 v2 ((hc.ex (aB.trans h)).g) ((hd.ex (aB.trans h)).g));obtain⟨x1,y1,rfl,-,z1,-⟩:=hc.g.open;obtain⟨x2,y2,rfl,-,z2,-⟩:=hd.g.open;obtain⟨x3,y3,rfl,-,z3,-⟩:=hc.m.open;obtain⟨x4,y4,rfl,-,z4,-⟩:=hd.m.open;have HX:=Aa aB;obtain⟨p,m,ml,n,rows⟩:=c;obtain⟨p',m',aE,n',aA⟩:=d;obtain⟨B,hB⟩:=nA w.heap.size;rw[hB]at c0 c1 c2 c3 c4 d0 d1 d2 d3 d4;obtain⟨F,hF⟩:=nA (CE p m ml p' m' aE);have aI:Hia (Wk ⟨p,m,ml,n,rows⟩ ⟨p',m',aE,n',aA⟩=(F&&(decide (n=n')&&decide (rows=aA)))):=Aa (by rw[<-hF];rfl);rw[aI.o];clear aI;dsimp only[AX.arg,AX.obj]at *;rw[hF]at aF;clear hF;clear hc hd e1 e2 aB aH z1 z2 z3 z4;go_enter Tryz.func40,Tryz.ntmps40
 go_upto_region 1 with fail
 try simp only[hB]
 clear hB;generalize (w.alloc (.cells #[p,m,(x3,ml.length,y3),n,(x1,rows.length,y1)] 39)).alloc (.cells #[p',m',(x4,aE.length,y4),n',(x2,aA.length,y2)] 39)=wB at *;have aG:=Aa (fun w' (h:Ex wB w')=>(⟨h.cell c3,h.cell c4,h.cell d3,h.cell d4⟩:_/\_/\_/\_))
 cases F with
 | false=>
  go_wp2_with fail
  refine aF.o.mono ?_;rintro e w2⟨rfl,aD⟩;have aC:=Aa (HX.o.trans aD);clear c0 c1 c2 c3 c4 d0 d1 d2 d3 d4 aD;go_wp2_with fail
  go_ret;exact⟨rfl,aC.o⟩
 | true=>
  go_wp2_with fail
  refine aF.o.mono ?_;rintro e w2⟨rfl,aD⟩;have aC:=Aa aD;clear c0 c1 c2 c3 c4 d0 d1 d2 d3 d4 aD;obtain⟨c3,c4,d3,d4⟩:=aG.o w2 aC.o;by_cases hn:n=n'
  .subst hn;have k1:(n==n)=true:=by simp
   have HR:=Aa (aK.o w2 aC.o);obtain⟨D,hD⟩:=nA (decide (rows=aA));rw[hD]at HR;have HD:=Aa hD;clear hD;go_wp2_with fail
   refine HR.o.mono ?_;rintro e w3⟨rfl,n3,rfl⟩;have aJ:=Aa ((Ex.refl w2).drewN n3);go_wp2_with fail
   go_ret;refine⟨?_,HX.o.trans (aC.o.trans aJ.o)⟩;have:=HD.o;simp[this]
  .have k1:(n==n')=false:=by simpa using hn
   have HN:=Aa hn;clear hn;go_wp2_with fail
   go_ret;refine⟨?_,HX.o.trans aC.o⟩;have:=HN.o;simp[this]
theorem IE{p m n:Int}{ml:List Int}{rows:List (List Int)}(h:Bw p m ml n rows 0):∃pn mn N:Nat,p=pn/\m=mn/\n=N/\Gg pn mn ml/\Hc pn mn (lw ml)/\1<=N/\N<=64/\rows.length<=256/\∀r∈rows,r.length=N/\Ct (pn^mn) r=0:=by
 obtain⟨hF,hn1,hn2⟩:=DH h;rcases h with⟨_,h⟩|⟨_,h1,h2⟩|⟨h1,h2,h3⟩
 .cases h
 .exact absurd h2.symm h1
 .rcases h3 with⟨h3,h4⟩|⟨_,pn,mn,N,piv,a',rfl,rfl,rfl,_,hm,_⟩
  .exact absurd h4.symm h3
  .obtain⟨p1,m1,e1,e2,aA,_,hI⟩:=hF;obtain rfl:pn=p1:=by omega
   obtain rfl:mn=m1:=ac;obtain⟨_,_,s3,s4⟩:=ED hm;exact⟨pn,mn,N,rfl,rfl,rfl,aA,hI,ac,ac,s3,fun r hr=>⟨by have:=(s4 r hr).1;omega,(s4 r hr).2⟩⟩
theorem JG{N k i j:Nat}{a:Nat->Nat->Int}(hi:i<k)(hj:j<N):An (Au N k a) i j=a i j:=by
 unfold An;rw[δ (l:=Au N k a),CR hi];exact Gz hj _
theorem elO_sol{p m:Nat}{ml:List Int}{N R:Nat}{a a':Nat->Nat->Int}{piv:List Nat}(hp:2<=p)(h:Ia p m ml N R a a' piv)(x:Nat->Int):B9 p m ml N (Au N piv.length a').length (An (Au N piv.length a')) x↔B9 p m ml N R a x:=by
 obtain⟨c,hc,hP,aA,hS⟩:=h;rw[<-hS x,AI];have e:∀i,i<piv.length->dt p m ml N (An (Au N piv.length a') i) x=dt p m ml N (a' i) x:=fun i hi=>GC (fun j hj=>JG hi hj) fun _ _=>rfl;constructor
 .intro h i hi;by_cases hip:i<piv.length
  .rw[<-e i hip];exact h i hip
  .refine GX hp fun j hj=>?_;rcases aA with h1|h1
   .omega
   .exact hP.tail i j ac hi ac
 .intro h i hi;rw[e i hi];exact h i (by have:=hP.le;omega)
theorem UL{p m:Nat}{ml pl ul:List Int}{N:Nat}{l1:List (List Int)}{i j:Nat}(hp:2<=p)(hm:1<=m)(hi:i<l1.length)(hj:j<N):An (Fv p m ml pl ul 0 N l1 l1.length) i j=plc (BJ pl) (F7 p m ml ul (An l1 i)) N j:=by
 have e:(Fv p m ml pl ul 0 N l1 l1.length).getD i []=il N (Lk p m ml pl ul 0 (l1.getD i []) N):=by
  unfold Fv;rw[δ,List.getElem?_map,ιn hi,γ hi,δ,γ hi];rfl
 show((Fv p m ml pl ul 0 N l1 l1.length).getD i []).getD j 0=_
 rw[e,Gz hj];rfl
theorem Zh{p m:Nat}{ml pl ul:List Int}{N:Nat}{l1:List (List Int)}(hp:2<=p)(hm:1<=m)(x:Nat->Int):B9 p m ml N (Fv p m ml pl ul 0 N l1 l1.length).length (An (Fv p m ml pl ul 0 N l1 l1.length)) x↔B9 p m ml N l1.length (fun i=>plc (BJ pl) (F7 p m ml ul (An l1 i)) N) x:=by
 rw[GV (ζ _)];have e:∀i,i<l1.length->dt p m ml N (An (Fv p m ml pl ul 0 N l1 l1.length) i) x=dt p m ml N (plc (BJ pl) (F7 p m ml ul (An l1 i)) N) x:=fun i hi=>GC (fun j hj=>UL hp hm hi hj) fun _ _=>rfl;exact⟨fun h i hi=>by show dt p m ml N (plc _ _ N) x=0;rw[<-e i hi];exact h i hi,fun h i hi=>by rw[e i hi];exact h i hi⟩
theorem VZ{p m:Nat}{ml pl ul:List Int}{N:Nat}{l1 l2:List (List Int)}(h:Bv p m ml pl ul 0 N)(h0:∀i,i<N->0<=pl.getD i 0){a':Nat->Nat->Int}{piv:List Nat}(aA:Ia p m ml N (Fv p m ml pl ul 0 N l1 l1.length).length (An (Fv p m ml pl ul 0 N l1 l1.length)) a' piv)(hd:Au N piv.length a'=l2):AW p m ml N l1 l2 pl ul:=by
 refine⟨h.pll,h.sll,h0,h.inj,h.sc,fun x=>?_⟩;rw[<-hd,elO_sol h.hp aA x];exact Zh h.hp h.hm x
theorem Ii{pl tl:List Int}(h:tl.length<=pl.length)(aA:∀i,i<tl.length->pl.getD i 0=tl.getD i 0):pl.take tl.length=tl:=by
 refine List.ext_getElem bh fun i h1 h2=>?_;have:=aA i h2;rw[δ,γ ac,δ,γ h2]at this;rw[ηp];exact this
theorem Nj(w:World)(n q:Nat)(hn:n<=64)(bA:1<=q)(hq:q<=256):
  Calls Tryz.prog 121 #[n,q] w fun r w'=>∃v cs,r= .returned v/\Pl w w' v (Dw n q) cs:=by
 obtain⟨bF,bP,bO,HQ,HN⟩:=On (Pl.nil (Ex.refl w)) (OH n q hn hq) (fun i=>Sh q i hq) (show 1<=q/\q<=256 from⟨bA,hq⟩) hn;clear bA hq;go_enter Tryz.func121,Tryz.ntmps121
 go_wp2_with fail
 go_loopw [5,12] (fun v' i' wr=>∃(i:Nat) (cs:List (Value × Value)),i<=n/\i'= .int .i64 i/\Hia (Pl w wr v' (gI n q i) cs)) (fun _ i' _=>n-(intOf i').toNat)
 case atStart=>exact⟨0, [],ac,rfl,bF⟩
 case round=>
  clear bF;obtain⟨i,cs,hi,rfl,hg⟩:=hrel;obtain⟨pa,pc,aM⟩:=Ad hg.o.own;subst aM;by_cases hin:i<n
  .obtain⟨GI,aT⟩:∃g,gI n q i=g:=⟨_,rfl⟩;have bM:Hia (gI n q (i+1)=GI++gJ q i (n-i)):=Aa (by rw[OG,aT]);have bC:Hia (GI.length<=1048576):=Aa (by rw[<-aT];have:=bP.o i;omega);rw[aT]at hg ⊢;obtain⟨LI,aQ⟩:∃l,GI.length=l:=⟨_,rfl⟩;rw[aQ]at bC ⊢;have bI:=Aa aQ;have HG:Hia (Pl w wr (.slice pa LI pc) (GI++gJ q i (i-i)) cs):=Aa (by rw[ηf];unfold gJ;rw[νb,List.flatMap_nil,ζp,<-aQ];exact hg.o);obtain⟨w8,h8⟩:∃w8,w8=wr:=⟨_,rfl⟩;rw[<-h8]at HG ⊢;have aY:=Aa hin;clear h8 hg aT aQ;go_wp2_with fail
   clear hin
   go_loopw [5,7] (fun v' j' wr=>∃(j:Nat) (cs:List (Value × Value)),i<=j/\j<=n/\j'= .int .i64 j/\Hia (Pl w wr v' (GI++gJ q i (j-i)) cs)) (fun _ j' _=>n-(intOf j').toNat)
   case atStart=>exact⟨i,cs,ac,ac,rfl,HG⟩
   case round=>
    clear HG;obtain⟨j,cs,hj1,hj2,rfl,hg⟩:=hrel;obtain⟨pa,pc,aM⟩:=Ad hg.o.own;subst aM;by_cases hjn:j<n
    .obtain⟨GJ,aS⟩:∃g,GI++gJ q i (j-i)=g:=⟨_,rfl⟩;have bL:Hia (GI++gJ q i (j+1-i)=GJ++gA i j (q-1)):=Aa (by rw[<-aS,show j+1-i=j-i+1 from ac,OF,show i+(j-i)=j from ac,ηo]);have bB:Hia (GJ.length<=1100000):=Aa (by rw[<-aS,ν];have:=bO.o i (j-i);have:=bC.o;have:=bI.o;have:=HN.o;omega);rw[aS]at hg ⊢;obtain⟨LJ,aP⟩:∃l,GJ.length=l:=⟨_,rfl⟩;rw[aP]at bB ⊢;have bJ:=Aa aP;have HG:Hia (Pl w wr (.slice pa LJ pc) (GJ++gA i j (1-1)) cs):=Aa (by unfold gA;rw[ηf,νb,List.map_nil,ζp,<-aP];exact hg.o);obtain⟨w7,h7⟩:∃w7,w7=wr:=⟨_,rfl⟩;rw[<-h7]at HG ⊢;have bE:=Aa hjn;clear h7 hg aS aP;go_wp2_with fail
     clear hjn
     go_loopw [5,8] (fun v' a' wr=>∃(a:Nat) (cs:List (Value × Value)),1<=a/\a<=q/\a'= .int .i64 a/\Hia (Pl w wr v' (GJ++gA i j (a-1)) cs)) (fun _ a' _=>q-(intOf a').toNat)
     case atStart=>exact⟨1,cs,ac,HQ.o.1,rfl,HG⟩
     case round=>
      clear HG;obtain⟨a,cs,ha1,ha2,rfl,hg⟩:=hrel;obtain⟨pa,pc,aM⟩:=Ad hg.o.own;subst aM;by_cases han:a<q
      .obtain⟨GA,aU⟩:∃g,GJ++gA i j (a-1)=g:=⟨_,rfl⟩;have bN:Hia (GJ++gA i j (a+1-1)=GA ++ [⟨i,j,a⟩]):=Aa (by
        rw[<-aU,show a+1-1=a-1+1 from ac,gA_succ,show a-1+1=a from ac,ηo])
       have aX:Hia (GA.length<=1200000):=Aa (by rw[<-aU,ν,Si];have:=bB.o;have:=bJ.o;have:=HQ.o;omega);rw[aU]at hg ⊢;obtain⟨LA,aR⟩:∃l,GA.length=l:=⟨_,rfl⟩;have bD:=Aa aR;rw[aR]at aX ⊢;obtain⟨HG,aV,aD,aZ⟩:=Of (show Pl w wr (.slice pa LA pc) GA cs from by rw[<-aR];exact hg.o) (ND.new wr i j a) (show i<=64 from by have:=aY.o;have:=HN.o;omega) han;obtain⟨w5,h5⟩:∃w5,w5=wr:=⟨_,rfl⟩;rw[<-h5]at HG aV ⊢;clear h5 hg aU aR;go_upto_region 12 with fail
       clear han;obtain⟨XB,aO⟩:∃x,w5.heap.size=x:=⟨_,rfl⟩;rw[aO]at aV
       try simp only[aO]
       have HXB:=Aa aO;clear aO;generalize w5.alloc (.cells #[i,j,a,(),()] 129)=w6 at *;go_wp2_with fail
       go_loopw [31] (fun k' wr=>∃(k:Nat) (pv sv:Value),k<=i/\k'= .int .i64 k/\Hia (ND w5 wr XB i j a pv sv (Ll k) (Mf k))) (fun k' _=>i-(intOf k').toNat)
       case atStart=>exact⟨0,_,_,ac,rfl,aV⟩
       case round=>
        clear aV;obtain⟨k,pv,sv,hk,rfl,HC⟩:=hrel;obtain⟨va,vc,rfl⟩:=Ad HC.o.o0;obtain⟨ua,uc,rfl⟩:=Ad HC.o.o1;rw[FQ,FJ]at *;have c3:=HC.o.b0;by_cases hki:k<i
        .have aW:Hia (wr.ownsRow w5.heap.size 3 1 (.slice va k vc) k (Aj (Ll k))):=Aa (by have:=HC.o.o0;rwa[FQ]at this);have bK:=Aa hki;go_wp2_with (at_builtin;refine Al _ rfl _ _ 22 rfl w5.heap.size 3 (.int .i64 0) 1 8 Tryz.underlying22 Az rfl ae _ k (Aj (Ll k)) rfl aW.o [.int .i64 (k:Int)] 3 _ rfl ag rfl aj (by have:=aD.o;unfold maxLen;omega) (by have:=aD.o;omega) HC.o.ex.size ?_)
         intro v7 w7 aC;have aA:Bz wr w7 w5.heap.size 3 1 (.slice va k vc) v7 (Ll k).length (Aj (Ll k)) [.int .i64 (k:Int)]:=by rw[FQ];exact aC
         obtain⟨g1,g2⟩:=HC.o.at0 aA;have aB:=HC.o.app0 aA;rw[<-Xt]at aB;obtain⟨aH,aG,rfl⟩:=Ad aC.own;have aF:=Aa aB;have aK:=Aa (show(w7.setCell (XB,3) (.slice aH (k+1) aG)).ownsRow w5.heap.size 3 1 (.slice ua k uc) k (Aj (Mf k)) from by have:=aF.o.o1;rwa[FJ]at this);have c4:=aF.o.b1;clear aC aA aB c3;go_wp2_with (at_builtin;refine Al _ rfl _ _ 22 rfl w5.heap.size 3 (.int .i64 0) 1 8 Tryz.underlying22 Az rfl ae _ k (Aj (Mf k)) rfl aK.o [.int .i64 1] 3 _ rfl ag rfl aj (by have:=aD.o;unfold maxLen;omega) (by have:=aD.o;omega) aF.o.ex.size ?_)
         intro v8 w8 aC;have aA:Bz (w7.setCell (XB,3) (.slice aH (k+1) aG)) w8 w5.heap.size 3 1 (.slice ua k uc) v8 (Mf k).length (Aj (Mf k)) [.int .i64 1]:=by rw[FJ];exact aC
         obtain⟨h1,h2⟩:=aF.o.at1 aA;have aB:=aF.o.app1 aA;rw[<-WK]at aB;obtain⟨aJ,aI,rfl⟩:=Ad aC.own;have aE:=Aa aB;clear aC aA aB c4 g1 g2;go_wp2_with fail
         go_roundw
         case rel=>exact⟨k+1,_,_,ac,by go_num,aE⟩
         case measure=>have:=bK.o;simp[intOf];omega
        .obtain rfl:i=k:=by omega
         have aW:Hia (wr.ownsRow w5.heap.size 3 1 (.slice va i vc) i (Aj (Ll i))):=Aa (by have:=HC.o.o0;rwa[FQ]at this);go_wp2_with (at_builtin;refine Al _ rfl _ _ 22 rfl w5.heap.size 3 (.int .i64 0) 1 8 Tryz.underlying22 Az rfl ae _ i (Aj (Ll i)) rfl aW.o [.int .i64 (j:Int)] 3 _ rfl ag rfl aj (by have:=aD.o;unfold maxLen;omega) (by have:=aD.o;omega) HC.o.ex.size ?_)
         intro v7 w7 aC;have aA:Bz wr w7 w5.heap.size 3 1 (.slice va i vc) v7 (Ll i).length (Aj (Ll i)) [.int .i64 (j:Int)]:=by rw[FQ];exact aC
         obtain⟨g1,g2⟩:=HC.o.at0 aA;have aB:=HC.o.app0 aA;obtain⟨aH,aG,rfl⟩:=Ad aC.own;have aF:=Aa aB;have aK:=Aa (show(w7.setCell (XB,3) (.slice aH (i+1) aG)).ownsRow w5.heap.size 3 1 (.slice ua i uc) i (Aj (Mf i)) from by have:=aF.o.o1;rwa[FJ]at this);have c4:=aF.o.b1;clear aC aA aB c3;go_wp2_with (at_builtin;refine Al _ rfl _ _ 22 rfl w5.heap.size 3 (.int .i64 0) 1 8 Tryz.underlying22 Az rfl ae _ i (Aj (Mf i)) rfl aK.o [.int .i64 (a:Int)] 3 _ rfl ag rfl aj (by have:=aD.o;unfold maxLen;omega) (by have:=aD.o;omega) aF.o.ex.size ?_)
         intro v8 w8 aC;have aA:Bz (w7.setCell (XB,3) (.slice aH (i+1) aG)) w8 w5.heap.size 3 1 (.slice ua i uc) v8 (Mf i).length (Aj (Mf i)) [.int .i64 (a:Int)]:=by rw[FJ];exact aC
         obtain⟨h1,h2⟩:=aF.o.at1 aA;have aB:=aF.o.app1 aA;obtain⟨aJ,aI,rfl⟩:=Ad aC.own;have aE:Hia (ND w5 (w8.setCell (XB,4) (.slice aJ (i+1) aI)) XB i j a (.slice aH (i+1) aG) (.slice aJ (i+1) aI) (Cd.tl ⟨i,j,a⟩) (Cd.sl ⟨i,j,a⟩)):=Aa (aB);clear aC aA aB c4 g1 g2;have bH:=Aa (show(w8.setCell (XB,4) (.slice aJ (i+1) aI)).ownsRow w.heap.size 129 5 (.slice pa LA pc) LA (Fy GA cs) from by have:=Ag HG.o.own aE.o.ex;rwa[bD.o]at this);have bG:=Aa (HG.o.later aE.o.ex).ex.size;have d0:=aE.o.c0;have d1:=aE.o.c1;have d2:=aE.o.c2;have d3:=aE.o.b0;have d4:=aE.o.b1;go_wp2_with (at_builtin;refine Al _ rfl _ _ 109 rfl w.heap.size 129 (.agg #[Ω,Ω,Ω,(),()]) 5 72 Tryz.underlying109 Qo rfl ae _ LA (Fy GA cs) rfl bH.o [.int .i64 (i:Int),.int .i64 (j:Int),.int .i64 (a:Int),.slice aH (i+1) aG,.slice aJ (i+1) aI] 129 _ rfl ag rfl aj (by have:=aX.o;unfold maxLen;omega) (by have:=aX.o;omega) bG.o ?_)
         intro v9 w9 aC;have aA:Bz (w8.setCell (XB,4) (.slice aJ (i+1) aI)) w9 w.heap.size 129 5 (.slice pa LA pc) v9 GA.length (Fy GA cs) [.int .i64 (i:Int),.int .i64 (j:Int),.int .i64 (a:Int),.slice aH (i+1) aG,.slice aJ (i+1) aI]:=by rw[bD.o];exact aC
         have aL:=Aa ((HG.o.later aE.o.ex).app (g:=⟨i,j,a⟩) aE.o (fun X e=>(HG.o.own.lt X e).2) HG.o.ex.size aA);rw[<-bN.o]at aL;obtain⟨pa9,pc9,rfl⟩:=Ad aC.own;have hab:a<=256:=by have:=aZ.o;have:=HQ.o;omega
         clear aC aA d0 d1 d2 d3 d4 h1 h2;go_wp2_with fail
         go_roundw
         case rel=>exact⟨a+1,_,ac,by have:=aZ.o;omega,by go_num,aL⟩
         case measure=>have:=aZ.o;simp[intOf];omega
      .obtain rfl:q=a:=by omega
       obtain⟨LX,aN⟩:∃x,(GJ++gA i j (q-1)).length=x:=⟨_,rfl⟩;rw[aN]at hg ⊢;rw[<-bL.o]at hg;clear aN;have aL:=Aa hg.o;clear hg;go_wp2_with fail
       go_roundw
       case rel=>exact⟨j+1,cs,ac,by have:=bE.o;omega,by go_num,aL⟩
       case measure=>have:=bE.o;simp[intOf];omega
    .obtain rfl:n=j:=by omega
     obtain⟨LX,aN⟩:∃x,(GI++gJ q i (n-i)).length=x:=⟨_,rfl⟩;rw[aN]at hg ⊢;rw[<-bM.o]at hg;clear aN;have aL:=Aa hg.o;clear hg;go_wp2_with fail
     go_roundw
     case rel=>exact⟨i+1,cs,by have:=aY.o;omega,by go_num,aL⟩
     case measure=>have:=aY.o;simp[intOf];omega
  .obtain rfl:n=i:=by omega
   go_wp2_with fail
   go_ret;exact⟨_,cs,rfl,hg.o⟩
theorem zcX{P:Prop}(h:P:=by
 clear aE aA;go_wp2_with fail
 go_ret;exact⟨⟨_,rfl,HR.o⟩,aC.o⟩):P:=h
theorem Hs(w:World)(p m:Int)(ml:List Int)(mv:Value)(aD:Ak w mv ml)(n:Int)(rows:List (List Int))(v:Value)(hv:B6 w v rows):
  Calls Tryz.prog 37 #[.agg #[p,m,mv,n,v]] w fun r w'=>(∃e:Int,r= .returned (.int .i64 e)/\Bw p m ml n rows e)/\Ex w w':=by
 obtain⟨a0,a1,a2,a3,a4,ea⟩:=EJ w p m mv n v;have aG:=Aa (fun (w':World) (h:Ex w w')=>KQ p m ml mv w' (aD.ex h));have aE:=Aa (fun (w':World) (h:Ex w w')=>RC p m ml mv w' (aD.ex h) n rows v (hv.ex h));obtain⟨za,zc,rfl,-,z2,-⟩:=hv.open;unfold maxLen at z2;obtain⟨ma,mc,rfl,-,m2,-⟩:=aD.open;unfold maxLen at m2;have HE:=Aa ea;obtain⟨F,hF⟩:=nA (Cm p m ml);have aJ:F=0∨F=1:=by
  rw[<-hF];unfold Cm;split <;> omega
 have aA:Hia (∀e,((F≠0/\e=1)∨(F=0/\Eo n≠0/\e=Eo n)∨(F=0/\Eo n=0/\Mu p m ml n rows e))->Bw p m ml n rows e):=Aa (fun e h=>by unfold Bw;rw[hF];exact h);rw[hF]at aG;clear aD hv ea hF;go_enter Tryz.func37,Tryz.ntmps37
 go_wp2_with fail
 obtain⟨xb,aF⟩:=nA w.heap.size;rw[aF]at a0 a1 a2 a3 a4
 try simp only[aF]
 clear aF;generalize w.alloc (.cells #[p,m,(ma,ml.length,mc),n,(za,rows.length,zc)] 39)=w1 at *;refine(aG.o w1 HE.o).mono ?_;rintro e w2⟨rfl,aB⟩;obtain⟨A0,A1,A2,A3,A4,aC⟩:=Ty (aB.cell a0) (aB.cell a1) (aB.cell a2) (aB.cell a3) (aB.cell a4) (HE.o.trans aB);clear a0 a1 a2 a3 a4 aB aG HE;rcases aJ with h1|h1
 .subst h1;have a3:=A3.o;by_cases h2:n<1
  .have HR:=Aa (aA.o 4 (.inr (.inl ⟨rfl,by unfold Eo;rw[if_pos (.inl h2)];decide,by unfold Eo;rw[if_pos (.inl h2)]⟩)));exact zcX
  .by_cases h3:64<n
   .have HR:=Aa (aA.o 4 (.inr (.inl ⟨rfl,by unfold Eo;rw[if_pos (.inr h3)];decide,by unfold Eo;rw[if_pos (.inr h3)]⟩)));clear aE aA;have b1:decide (n<1)=false:=by simp;omega
    go_wp2_with fail
    go_ret;exact⟨⟨_,rfl,HR.o⟩,aC.o⟩
   .have aH:=Aa (fun e h=>aA.o e (.inr (.inr ⟨rfl,by unfold Eo;rw[if_neg ac],h⟩)));have b1:decide (n<1)=false:=by simp;omega
    have b2:decide (64<n)=false:=aq;have a0:=A0.o;have a1:=A1.o;have a2:=A2.o;have a4:=A4.o;clear aA;go_wp2_with fail
    refine(aE.o w2 aC.o).mono ?_;rintro e w3⟨⟨e,rfl,he⟩,aI⟩;have HR:=Aa (aH.o e he);have aK:=Aa (aC.o.trans aI);clear he aI;go_wp2_with fail
    go_ret;exact⟨⟨_,rfl,HR.o⟩,aK.o⟩
 .subst h1;have HR:=Aa (aA.o 1 (.inl ⟨ae,rfl⟩));exact zcX
section
variable {p m:Nat} {ml:List Int} {N k:Nat} {a:Nat->Nat->Int} {piv:List Nat} {c:Nat} {f:Nat->Int}
end
end Go.Proofs.YtehieobniamagaaGreat
