/- Walks of the reference's Entries (any field), List, Weight and Word. -/
import Derived.Sort.OwnSortedInts
import Derived.Test.YtehieobniamagaaGreatZm22
namespace Go.Proofs.YtehieobniamagaaGreat
open Go.RowKit
set_option linter.all false
set_option maxRecDepth 100000
set_option maxHeartbeats 4000000
section
variable {p m:Int} {mv:Value}
end
section
variable {p m:Nat} {low:Vc}
theorem V4(hp:2<=p)(hm:1<=m){x:Nat}(hx:x<p^m):BI p m low x 1=x:=by
 show Ak p m low 1 x=x
 exact Cn hp hm hx
theorem V5(hp:2<=p)(hm:1<=m)(x y:Nat):∀e,BI p m low (Ak p m low x y) e=Ak p m low (BI p m low x e) (BI p m low y e)
 | 0=>by
  show 1=Ak p m low 1 1
  rw[Cn hp hm (Bw hp hm)]
 | e+1=>by
  show Ak p m low (BI p m low (Ak p m low x y) e) (Ak p m low x y)=Ak p m low (Ak p m low (BI p m low x e) x) (Ak p m low (BI p m low y e) y)
  have h1:1<=p:=ac;rw[V5 hp hm x y e,Bo h1,<-Bo h1 (BI p m low y e),AW (BI p m low y e) x,Bo h1 x,<-Bo h1]
theorem S0(hp:2<=p)(hm:1<=m){x:Nat}(hx:x<p^m):∀k,S2 p m low x k=BI p m low x (p^k)
 | 0=>by rw[Nat.pow_zero,V4 hp hm hx];rfl
 | k+1=>by
  show BI p m low (S2 p m low x k) p=_
  rw[S0 hp hm hx k,NN hp hm,Nat.pow_succ]
theorem SL(hp:2<=p)(hm:1<=m)(hF:GW p m low){x:Nat}(h1:1<=x)(hx:x<p^m):∀e,1<=BI p m low x e
 | 0=>Nat.le_refl _
 | e+1=>hF.ne_zero hp hm (SL hp hm hF h1 hx e) (Dj hp hm x e) h1 hx
theorem SZ(hp:2<=p)(hm:1<=m)(hF:GW p m low){x:Nat}(h1:1<=x)(hx:x<p^m)(k:Nat):1<=S2 p m low x k:=by
 rw[S0 hp hm hx];exact SL hp hm hF h1 hx _
end
structure Bq(p m:Nat)(ml pl sl:List Int)(fr N:Nat):Prop where
 hp:2<=p
 hm:1<=m
 hF:GW p m (lw ml)
 n1:1<=N
 n2:N<=64
 pll:pl.length=N
 sll:sl.length=N
 inj:FV N (BD pl)
 sc:∀i,i<N->∃z:Nat,sl.getD i 0=z/\1<=z/\z<p^m
 frm:fr<m
theorem YT{pl:List Int}{N:Nat}(hl:pl.length=N)(hr:BB pl N=true)(hd:Ez pl=false):FV N (BD pl):=by
 refine⟨fun i hi=>?_,fun i j hi hj e=>Classical.byContradiction fun aA=>?_⟩
 .have:=DU hr (i:=i) ac;unfold BD;omega
 .have h1:=DU hr (i:=i) ac;have h2:=DU hr (i:=j) ac;have:Ez pl=true:=Ir.2 (by
   unfold BD at e;rcases Nat.lt_or_gt_of_ne aA with h|h
   .exact⟨j,i,h,ac,ac⟩
   .exact⟨i,j,h,ac,ac⟩)
  rw[hd]at this;cases this
theorem KE{p m:Int}{ml:List Int}{n:Int}{pl sl:List Int}{fr:Int}(h:CW p m ml n pl sl fr=0):
  ∃(pn mn N fn:Nat),p=pn/\m=mn/\n=N/\fr=fn/\GP pn mn ml/\B9 p m ml=0/\Bq pn mn ml pl sl fn N:=by
 obtain⟨n0,n1,n2,n3,n4,n5,n6,n7,n8,n9⟩:=NE h;obtain⟨pn,mn,rfl,rfl,hf,hpr,hF⟩:=(Cj _ _ _).1 n0;obtain⟨fn,rfl⟩:∃fn:Nat,fr=fn:=⟨fr.toNat,ac⟩;obtain⟨N,rfl⟩:∃N:Nat,n=N:=⟨n.toNat,ac⟩;exact⟨pn,mn,N,fn,rfl,rfl,rfl,rfl,hf,n0,hf.p2,hf.m1,hF,ac,ac,ac,ac,YT ac n5 n8,fun i hi=>fac_at (by simpa only[Int.toNat_natCast]using n9) ac,ac⟩
theorem Zk{q:Nat}{l:List Int}(h:∀i,i<l.length->∃z:Nat,l.getD i 0=z/\1<=z/\z<q):EO q l=0:=by
 unfold EO;have aA:∀x∈l,∃z:Nat,x=z/\1<=z/\z<q:=fun x hx=>by
  obtain⟨i,hi,rfl⟩:=List.getElem_of_mem hx;have:=h i hi;rw[List.getD_eq_getElem?_getD,List.getElem?_eq_getElem hi]at this;exact this
 rw[if_neg,if_neg]
 .intro hc;rw[List.contains_iff_mem]at hc;obtain⟨z,h1,h2,_⟩:=aA 0 hc;omega
 .intro hc;obtain⟨x,hx,h1⟩:=List.any_eq_true.1 hc;obtain⟨z,rfl,h2,h3⟩:=aA x hx;unfold Gb at h1;simp at h1;omega
section
variable {p m:Nat} {ml pl sl:List Int} {fr N:Nat} {x:List Int}
theorem Bq.img(h:Bq p m ml pl sl fr N){i:Nat}(hi:i<N):KV p m ml pl sl fr x N (BD pl i)=vF p m ml sl fr x i:=Kt h.inj _ N (Nat.le_refl _) i hi
theorem CM{N j:Nat}(h:j<N)(f:Nat->Int):(il N f).getD j 0=f j:=by
 exact zdk
theorem Bq.imgE(h:Bq p m ml pl sl fr N){j:Nat}(hj:j<N):∃z:Nat,KV p m ml pl sl fr x N j=z/\z<p^m:=by
 obtain⟨i,hi,rfl⟩:=h.inj.surj hj;rw[h.img hi];exact⟨_,rfl,A5 (by have:=h.hp;omega) _ _⟩
end
section
variable {p m:Nat} {ml pl sl ql tl:List Int} {fr fs N:Nat} {x:List Int}
theorem FV.comp{π σ:Nat->Nat}(h:FV N π)(k:FV N σ):FV N (fun i=> σ (π i)):=
 ⟨fun i hi=>k.lt _ (h.lt i hi),fun i j hi hj e=>h.inj i j hi hj (k.inj _ _ (h.lt i hi) (h.lt j hj) e)⟩
theorem Lh(h:Bq p m ml pl sl fr N){i:Nat}(hi:i<N):BD (il N (cP pl ql)) i=BD ql (BD pl i):=by
 unfold BD;rw[CM hi];rfl
theorem WY(h:Bq p m ml pl sl fr N)(k:Bq p m ml ql tl fs N):Bq p m ml (il N (cP pl ql)) (il N (cS p m ml pl sl tl fs)) ((fr+fs)%m) N where
 hp:=h.hp
 hm:=h.hm
 hF:=h.hF
 n1:=h.n1
 n2:=h.n2
 pll:=Am _ _
 sll:=Am _ _
 inj:=by
  have hc:=h.inj.comp k.inj;exact⟨fun i hi=>by rw[Lh h hi];exact hc.lt i hi,fun i j hi hj e=>by rw[Lh h hi,Lh h hj]at e;exact hc.inj i j hi hj e⟩
 sc:=fun i hi=>by
  rw[CM hi];obtain⟨s,hs,aD,aA⟩:=h.sc i hi;obtain⟨t,ht,aC,aB⟩:=k.sc _ (h.inj.lt i hi);refine⟨_,rfl,?_,A5 (by have:=h.hp;omega) _ _⟩;rw[hs,ht,AC aA,AC aB];exact h.hF.ne_zero h.hp h.hm aC aB (SZ h.hp h.hm h.hF aD aA fs) (N6 h.hp h.hm aA fs)
 frm:=Nat.mod_lt _ (by have:=h.hm;omega)
theorem KR(h:Bq p m ml pl sl fr N)(v:Nat->Int){i:Nat}(hi:i<N):(il N (plc (BD pl) v N)).getD (BD pl i) 0=v i:=by
 rw[CM (h.inj.lt i hi)];exact Kt h.inj v N (Nat.le_refl _) i hi
theorem NO(hp:2<=p)(hm:1<=m)(hF:GW p m (lw ml)){s:Nat}(h1:1<=s)(hq:s<p^m):1<=D7 p m ml s/\D7 p m ml s<p^m/\Ak p m (lw ml) s (D7 p m ml s)=1:=by
 obtain⟨z,a,b,c⟩:=hF.inv hp hm h1 hq;rw[NP hp hm hF hq h1 b c];exact⟨a,b,c⟩
theorem KQ(h:Bq p m ml pl sl fr N){i:Nat}(hi:i<N):BD (il N (plc (BD pl) (fun i=>(i:Int)) N)) (BD pl i)=i:=by
 unfold BD;have:=KR h (fun i=>(i:Int)) hi;unfold BD at this;rw[this];rfl
theorem We(h:Bq p m ml pl sl fr N)(bk:Nat)(aE:bk<m):Bq p m ml (il N (plc (BD pl) (fun i=>(i:Int)) N)) (il N (plc (BD pl) (ivS p m ml sl bk) N)) bk N where
 hp:=h.hp
 hm:=h.hm
 hF:=h.hF
 n1:=h.n1
 n2:=h.n2
 pll:=Am _ _
 sll:=Am _ _
 inj:=⟨fun j hj=>by
  obtain⟨i,hi,rfl⟩:=h.inj.surj hj;rw[KQ h hi];exact hi,fun j j' hj aC e=>by
  obtain⟨i,hi,rfl⟩:=h.inj.surj hj;obtain⟨i',aD,rfl⟩:=h.inj.surj aC;rw[KQ h hi,KQ h aD]at e;rw[e]⟩
 sc:=fun j hj=>by
  obtain⟨i,hi,rfl⟩:=h.inj.surj hj;rw[KR h _ hi];obtain⟨s,hs,aB,aA⟩:=h.sc i hi;obtain⟨k1,k2,-⟩:=NO h.hp h.hm h.hF aB aA;refine⟨_,rfl,?_,N6 h.hp h.hm ?_ _⟩
  .rw[hs,AC aA];exact SZ h.hp h.hm h.hF k1 k2 _
  .rw[hs,AC aA];exact k2
 frm:=aE
theorem YV(h:Bq p m ml pl sl fr N):∀i,i<N->∃z:Nat,(il N (KV p m ml pl sl fr x N)).getD i 0=z/\z<p^m:=fun i hi=>by
 rw[CM hi];exact h.imgE hi
end
def Je(p m N:Nat)(f:Nat->Int):Prop:=∀j,j<N->0<=f j/\f j<((p^m:Nat):Int)
section
variable {p m:Nat} {ml:List Int} {N:Nat}
theorem TN(hp:1<=p)(x:Int)(u r:Nat->Int):Km p m ml x u r=Cg p m ml u (CE p m (Au (p^m) x)) r:=by
 funext j;unfold Km Cg;rw[Uj hp]
theorem Yk(hp:2<=p){u r:Nat->Int}{pl:Nat}{x:Nat->Int}(hx:dt p m ml N r x=0):dt p m ml N (LO p m ml u pl r) x=dt p m ml N u x:=by
 unfold LO;split
 .rfl
 .rw[TN ac,RE hp,hx,A9 ac,Cb ac (P6 hp _ _)]
theorem Vj(hp:2<=p){u r:Nat->Int}{pl:Nat}(hu:Je p m N u):Je p m N (LO p m ml u pl r):=by
 unfold LO;split
 .exact hu
 .intro j hj;unfold Km;split
  .exact hu j hj
  .have:=GH (m:=m) (show 1<=p by omega) (Au (p^m) (u j)) (CE p m (Ak p m (lw ml) (Au (p^m) (u pl)) (Au (p^m) (r j))));omega
theorem Ns(hp:2<=p){a:Nat->Nat->Int}{pl:Nat->Nat}{v x:Nat->Int}:∀k,BW p m ml N k a x->dt p m ml N (Nt p m ml a pl v k) x=dt p m ml N v x
 | 0,_=>rfl
 | k+1,h=>by
  show dt p m ml N (LO p m ml (Nt p m ml a pl v k) (pl k) (a k)) x=_
  rw[Yk hp (h k (by omega))];exact Ns hp k fun i hi=>h i (by omega)
theorem Kl(hp:2<=p){a:Nat->Nat->Int}{pl:Nat->Nat}{v:Nat->Int}(hv:Je p m N v):∀k,Je p m N (Nt p m ml a pl v k)
 | 0=>hv
 | k+1=>Vj hp (Kl hp hv k)
theorem H6(hp:2<=p)(hm:1<=m){n:Nat}{a:Nat->Nat->Int}{pl:Nat->Nat}{v:Nat->Int}(h:UL N a pl n):∀k,k<=n->∀j,j<k->Nt p m ml a pl v k (pl j)=0
 | 0,_,j,hj=>by omega
 | k+1,hk,j,hj=>by
  show LO p m ml (Nt p m ml a pl v k) (pl k) (a k) (pl j)=0
  unfold LO;split
  .rename_i h0;by_cases e:j=k
   .rw[e];exact h0
   .exact H6 hp hm h k (by omega) j (by omega)
  .unfold Km;by_cases e:j=k
   .rw[e,h.one k (by omega),if_neg (by decide),FL hp hm,Bz hp hm (BZ (Nat.pow_pos (by omega)) _),CJ (by omega)];rfl
   .rw[h.zer k j (by omega) (by omega),if_pos rfl];exact H6 hp hm h k (by omega) j (by omega)
theorem PR{pr:Nat->Bool}{n:Nat}:Cu pr n<0↔∀j,j<n->pr j=false:=by
 have h:=D9 pr n;constructor
 .intro h0;rw[decide_eq_false ac]at h;intro j hj
  cases e:pr j with
  | false=>rfl
  | true=>
   have:(List.range n).any pr=true:=List.any_eq_true.2 ⟨j,List.mem_range.2 hj,e⟩;rw[h]at this;cases this
 .intro ha;rw[BT ha];decide
theorem Zf{pr:Nat->Bool}{n:Nat}(h:0<=Cu pr n):(Cu pr n).toNat<n/\pr (Cu pr n).toNat=true/\∀j,j<(Cu pr n).toNat->pr j=false:=by
 unfold Cu at h ⊢;split
 .rename_i i hi;rw[List.find?_range_eq_some]at hi;refine⟨by have:=List.mem_range.1 hi.2.1;simpa using this,by simpa using hi.1,fun j hj=>?_⟩;have:=hi.2.2 j (by simpa using hj);simpa using this
 .rename_i hn;rw[hn]at h;exact absurd h ae
theorem SE{t:Nat}{v:Nat->Int}:LR t v<0↔∀j,j<t->v j=0:=by
 unfold LR;rw[PR];exact⟨fun h j hj=>by simpa using h j hj,fun h j hj=>by simpa using h j hj⟩
theorem lzI_at{t:Nat}{v:Nat->Int}(h:0<=LR t v):(LR t v).toNat<t/\v (LR t v).toNat≠0:=by
 obtain⟨h1,h2,-⟩:=Zf h;refine⟨h1,?_⟩;have h3:(v (LR t v).toNat !=0)=true:=h2;simpa using h3
structure Qn(p m:Nat)(ml:List Int)(N k:Nat)(rows:Nat->Nat->Int)(e:LB):Prop where
 ech:UL N e.a e.pl e.n
 sol:∀x,BW p m ml N e.n e.a x↔BW p m ml N k rows x
theorem BW.succ_iff{k:Nat}{rows:Nat->Nat->Int}{x:Nat->Int}:BW p m ml N (k+1) rows x↔BW p m ml N k rows x/\dt p m ml N (rows k) x=0:=
 ⟨fun h=>⟨fun i hi=>h i ac,h k ac⟩,fun h i hi=>by
  by_cases e:i=k
  .rw[e];exact h.2
  .exact h.1 i ac⟩
theorem XX(hp:2<=p)(hm:1<=m)(hF:GW p m (lw ml)){k:Nat}{rows:Nat->Nat->Int}{e:LB}(h:Qn p m ml N k rows e)(hr:Je p m N (rows k)):Qn p m ml N (k+1) rows (Gf p m ml N e (rows k)):=by
 have aJ:0<p^m:=Nat.pow_pos ac;have aD:Je p m N (e.red p m ml (rows k)):=Kl hp hr _;have aF:∀x,BW p m ml N e.n e.a x->dt p m ml N (e.red p m ml (rows k)) x=dt p m ml N (rows k) x:=fun x hx=>Ns hp _ hx;unfold Gf;split
 .rename_i hz;obtain⟨aC,aI⟩:=lzI_at hz;generalize hZ:(LR N (e.red p m ml (rows k))).toNat=z at aC aI;obtain⟨r1,r2⟩:=aD z aC;have hk0:((Au (p^m) (e.red p m ml (rows k) z):Nat):Int)=e.red p m ml (rows k) z:=Gp r1 r2;have aL:1<=Au (p^m) (e.red p m ml (rows k) z):=by omega
  have aK:Au (p^m) (e.red p m ml (rows k) z)<p^m:=BZ aJ _;obtain⟨c,hc⟩:=nA (ivz p m ml (Au (p^m) (e.red p m ml (rows k) z)));have aG:Ak p m (lw ml) c (Au (p^m) (e.red p m ml (rows k) z))=1:=by
   rw[<-hc];unfold ivz;rw[if_neg ac,AW];exact KO hp hm hF aL aK
  rw[hc];have aH:∀j,j<e.n->e.red p m ml (rows k) (e.pl j)=0:=fun j hj=>H6 hp hm h.ech _ (Nat.le_refl _) j hj;have aE:∀j,j<e.n->Ay e.pl e.n z j=e.pl j:=fun j hj=>Ad _ _ ac;have aB:∀j,j<e.n->Ay e.a e.n (BK p m ml c (e.red p m ml (rows k))) j=e.a j:=fun j hj=>Ad _ _ ac;refine⟨⟨fun i hi=>?_,fun i hi=>?_,fun i j hj hi=>?_⟩,fun x=>?_⟩
  .simp only at hi ⊢;by_cases ei:i=e.n
   .rw[ei,Ab];exact aC
   .rw[aE i ac];exact h.ech.lt i ac
  .simp only at hi ⊢;by_cases ei:i=e.n
   .rw[ei,Ab,Ab];show((Ak p m (lw ml) c (Au (p^m) (e.red p m ml (rows k) z)):Nat):Int)=1
    rw[aG];rfl
   .rw[aE i ac,aB i ac];exact h.ech.one i ac
  .simp only at hi ⊢;rw[aE j ac];by_cases ei:i=e.n
   .rw[ei,Ab];show((Ak p m (lw ml) c (Au (p^m) (e.red p m ml (rows k) (e.pl j))):Nat):Int)=0
    rw[aH j ac,CF,A9 ac];rfl
   .rw[aB i ac];exact h.ech.zer i j hj ac
  .simp only;rw[BW.succ_iff (k:=e.n),BW.succ_iff (k:=k),Ab,WT hp];have e1:BW p m ml N e.n (Ay e.a e.n (BK p m ml c (e.red p m ml (rows k)))) x↔BW p m ml N e.n e.a x:=
    ⟨fun h i hi=>by rw[<-aB i hi];exact h i hi,fun h i hi=>by rw[aB i hi];exact h i hi⟩
   rw[e1];constructor
   .rintro⟨a1,a2⟩;refine⟨(h.sol x).1 a1,?_⟩;rw[<-aF x a1];apply Classical.byContradiction;intro hne;have hcl:c≠0:=fun h0=>by
     rw[h0,BO ac]at aG;cases aG
    have aM:c<p^m:=by
     apply Classical.byContradiction;intro aA;rw[<-hc]at aA;unfold ivz at aA;rw[if_neg ac]at aA;exact aA (JR ac _)
    have:=hF.ne_zero hp hm (a:=c) (b:=dt p m ml N (e.red p m ml (rows k)) x) ac aM ac (P6 hp _ _);omega
   .rintro⟨a1,a2⟩;have a3:=(h.sol x).2 a1;exact⟨a3,by rw[aF x a3,a2,A9 ac]⟩
 .rename_i hz;have h0:=SE.1 (Int.not_le.1 hz);refine⟨h.ech,fun x=>?_⟩;rw[BW.succ_iff (k:=k),h.sol x];refine⟨fun a=>⟨a,?_⟩,fun a=>a.1⟩;rw[<-aF x ((h.sol x).2 a)];exact GO hp h0
theorem QI(hp:2<=p)(hm:1<=m)(hF:GW p m (lw ml)){rows:Nat->Nat->Int}{K:Nat}(hr:∀i,i<K->Je p m N (rows i)):∀k,k<=K->Qn p m ml N k rows (GZ p m ml N rows k)
 | 0,_=>⟨⟨fun i hi=>absurd hi (Nat.not_lt_zero i),fun i hi=>absurd hi (Nat.not_lt_zero i),fun i j _ hi=>absurd hi (Nat.not_lt_zero i)⟩,fun x=>⟨fun _ i hi=>absurd hi (Nat.not_lt_zero i),fun _ i hi=>absurd hi (Nat.not_lt_zero i)⟩⟩
 | k+1,hk=>XX hp hm hF (QI hp hm hF hr k (by omega)) (hr k (by omega))
theorem Qn.red_iff(hp:2<=p)(hm:1<=m){k:Nat}{rows:Nat->Nat->Int}{e:LB}(h:Qn p m ml N k rows e){v:Nat->Int}(hv:Je p m N v):LR N (e.red p m ml v)<0↔Cl p m ml N k rows v:=by
 rw[SE];have aA:∀x,BW p m ml N e.n e.a x->dt p m ml N (e.red p m ml v) x=dt p m ml N v x:=fun x hx=>Ns hp _ hx;constructor
 .intro h0 x hx;rw[<-aA x ((h.sol x).2 hx)];exact GO hp h0
 .intro hc j hj;have:=UL.zero (ml:=ml) hp hm h.ech (fun i hi=>H6 hp hm h.ech _ (Nat.le_refl _) i hi) (fun x hx=>by
   show dt p m ml N (e.red p m ml v) x=0
   rw[aA x hx];exact hc x ((h.sol x).1 hx)) hj
  obtain⟨r1,r2⟩:=Kl (ml:=ml) (a:=e.a) (pl:=e.pl) hp hv e.n j hj;have e2:=Gp r1 r2;rw[this]at e2;exact e2.symm
theorem Pq(hp:2<=p)(hm:1<=m){k n:Nat}{rows l:Nat->Nat->Int}{e:LB}(h:Qn p m ml N k rows e)(hl:∀i,i<n->Je p m N (l i)):IZ p m ml N e l n<0↔∀i,i<n->Cl p m ml N k rows (l i):=by
 unfold IZ;rw[PR];constructor
 .intro h0 i hi;have:=h0 i hi;rw[decide_eq_false_iff_not]at this;exact(h.red_iff hp hm (hl i hi)).1 ac
 .intro h0 i hi;rw[decide_eq_false_iff_not];have:=(h.red_iff hp hm (hl i hi)).2 (h0 i hi);omega
end
theorem QY(w:World)(p m:Int)(ml:List Int)(mv:Value)(aJ:Aj w mv ml)(p' m':Int)(aA:List Int)(aF:Value)(aC:Aj w aF aA):
  Calls Tryz.prog 94 #[.agg #[.int .i64 p,.int .i64 m,mv],.agg #[.int .i64 p',.int .i64 m',aF]] w fun r w'=>r= .returned (.bool (Cz p m ml p' m' aA))/\Ex w w':=by
 obtain⟨a0,a1,a2,ea,-⟩:=Az w p m mv;obtain⟨b0,b1,b2,eb,-⟩:=Az (w.alloc (.cells #[.int .i64 p,.int .i64 m,mv] 24)) p' m' aF;replace a0:=eb.cell a0;replace a1:=eb.cell a1;replace a2:=eb.cell a2;have aH:(w.alloc (.cells #[.int .i64 p,.int .i64 m,mv] 24)).heap.size=w.heap.size+1:=ag;rw[aH]at b0 b1 b2;have HE:=Aa (ea.trans eb);obtain⟨ma,mc,rfl,m1',m2,m3⟩:=aJ.open;obtain⟨na,nc,rfl,-,n2,n3⟩:=aC.open;unfold maxLen at m2 n2;obtain⟨R,hR⟩:=nA (Cz p m ml p' m' aA);rw[hR];have M3:=Aa m3;have N3:=Aa n3;have HR:=Aa hR;clear aJ aC aH ea eb m3 n3 hR;go_enter Tryz.func94,Tryz.ntmps94
 by_cases h1:p=p'
 .have aP:(p !=p')=false:=by simpa using h1
  by_cases h2:m=m'
  .have aO:(m !=m')=false:=by simpa using h2
   by_cases h3:ml.length=aA.length
   .have b3:((ml.length:Int) !=(aA.length:Int))=false:=by simp;omega
    subst h1;subst h2;have hn:∃n,ml.length=n:=⟨_,rfl⟩;have aL:=Aa (show R=true↔ml=aA from by rw[<-HR.o,C7];simp);have H3:=Aa h3;rw[<-h3]at a0 a1 a2 b0 b1 b2 HE ⊢;clear h3 b3 hn;go_wp2_with fail
    generalize (w.alloc (.cells #[.int .i64 p,.int .i64 m,.slice ma ml.length mc] 24)).alloc (.cells #[.int .i64 p,.int .i64 m,.slice na ml.length nc] 24)=w1 at *;have A2:=Aa a2;have B2:=Aa b2
    go_loopw [5] (fun i' wr=>∃(i:Nat),i<=ml.length/\i'= .int .i64 i/\(∀j,j<i->ml.getD j 0=aA.getD j 0)/\Hia (Ex w1 wr)) (fun i' _=>ml.length-(intOf i').toNat)
    case atStart=>exact⟨0,ac,rfl,fun j hj=>ac,Aa (Ex.refl _)⟩
    case round=>
     obtain⟨i,hi,rfl,aD,aB⟩:=hrel;have aM:=Aa aD;clear aD a0 a1 b0 b1;by_cases hin:i<ml.length
     .obtain⟨mb,mo,rfl,aK⟩:=M3.o ac;obtain⟨nb,no,rfl,aI⟩:=N3.o (by have:=H3.o;omega);have c1:=aB.o.cell (HE.o.cell (aK i _ (show ml[i]?=some (ml.getD i 0) from by rw[List.getD_eq_getElem?_getD,List.getElem?_eq_getElem hin];rfl)));have c2:=aB.o.cell (HE.o.cell (aI i _ (show aA[i]?=some (aA.getD i 0) from by rw[List.getD_eq_getElem?_getD,List.getElem?_eq_getElem (by have:=H3.o;omega)];rfl)));have f2:=aB.o.cell A2.o;have g2:=aB.o.cell B2.o;have j1:(0:Int)<=(i:Int):=by omega
      have j2:(i:Int)<(ml.length:Int):=ac;have aN:m2=m2:=rfl;obtain⟨x,hx⟩:=nA (ml.getD i 0);obtain⟨y,hy⟩:=nA (aA.getD i 0);rw[hx]at c1;rw[hy]at c2;have aE:=Aa (show x=ml.getD i 0/\y=aA.getD i 0 from⟨hx.symm,hy.symm⟩);clear hx hy aK aI a2 b2 aN;by_cases hxy:x=y
      .have aQ:=Aa (show ∀j,j<i+1->ml.getD j 0=aA.getD j 0 from fun j hj=>by
        by_cases e:j=i
        .subst e;rw[<-aE.o.1,<-aE.o.2,hxy]
        .exact aM.o j ac)
       have bb:(x !=y)=false:=by simp[hxy]
       have aG:y=x:=hxy.symm;subst aG;clear hxy;go_upto_region 6 with fail
       go_quiet (fail)
       go_wp2_with fail
       go_roundw
       case rel=>exact⟨i+1,ac,by go_num,aQ.o,Aa (aB.o.drewN _)⟩
       case measure=>simp[intOf];omega
      .have bb:(x !=y)=true:=by simpa using hxy
       have hr:R=false:=Bool.eq_false_iff.2 fun h=>hxy (by rw[aE.o.1,aE.o.2,aL.o.1 h]);subst hr;have aG:¬y=x:=fun h=>hxy h.symm;go_upto_region 6 with fail
       go_quiet (fail)
       go_wp2_with fail
       go_ret;exact⟨rfl,HE.o.trans (aB.o.drewN _)⟩
     .obtain rfl:i=ml.length:=by omega
      have f2:=aB.o.cell A2.o;exact zbj
   .exact zal
  .have aO:(m !=m')=true:=by simpa using h2
   exact zbB
 .have aP:(p !=p')=true:=by simpa using h1
  exact zbD
def QO(c d:AR):Bool:=Cz c.p c.m c.ml d.p d.m d.ml&&(decide (c.n=d.n)&&decide (c.rows=d.rows))
theorem Va{c d:AR}:QO c d=true↔c=d:=by
 obtain⟨p,m,ml,n,rows⟩:=c;obtain⟨p',m',ml',n',rows'⟩:=d;simp only[QO,Bool.and_eq_true,decide_eq_true_eq,C7,AR.mk.injEq];constructor
 .rintro⟨⟨h1,h2,h3⟩,h4,h5⟩;exact⟨h1,h2,h3,h4,h5⟩
 .rintro⟨h1,h2,h3,h4,h5⟩;exact⟨⟨h1,h2,h3⟩,h4,h5⟩
theorem Q4(w:World)(c d:AR)(m1 m2 v1 v2:Value)(hc:c.at w m1 v1)(hd:d.at w m2 v2):
  Calls Tryz.prog 40 #[c.arg m1 v1,d.arg m2 v2] w fun r w'=>r= .returned (.bool (QO c d))/\Ex w w':=by
 obtain⟨c0,c1,c2,c3,c4⟩:=CH w c m1 v1;obtain⟨d0,d1,d2,d3,d4⟩:=CH (w.alloc (c.obj m1 v1)) d m2 v2;have aH:(w.alloc (c.obj m1 v1)).heap.size=w.heap.size+1:=ag;have e1:=AH w (c.obj m1 v1);have e2:=AH (w.alloc (c.obj m1 v1)) (d.obj m2 v2);rw[aH]at d0 d1 d2 d3 d4;replace c0:=e2.cell c0;replace c1:=e2.cell c1;replace c2:=e2.cell c2;replace c3:=e2.cell c3;replace c4:=e2.cell c4;have aB:=e1.trans e2;have aF:=Aa (QY _ c.p c.m c.ml m1 ((hc.ex aB).m) d.p d.m d.ml m2 ((hd.ex aB).m));have aK:=Aa (fun (w':World) (h:Ex ((w.alloc (c.obj m1 v1)).alloc (d.obj m2 v2)) w')=>Dx w' c.rows d.rows v1 v2 ((hc.ex (aB.trans h)).g) ((hd.ex (aB.trans h)).g));obtain⟨x1,y1,rfl,-,z1,-⟩:=hc.g.open;obtain⟨x2,y2,rfl,-,z2,-⟩:=hd.g.open;obtain⟨x3,y3,rfl,-,z3,-⟩:=hc.m.open;obtain⟨x4,y4,rfl,-,z4,-⟩:=hd.m.open;have HX:=Aa aB;obtain⟨p,m,ml,n,rows⟩:=c;obtain⟨p',m',aE,n',aA⟩:=d;obtain⟨B,hB⟩:=nA w.heap.size;rw[hB]at c0 c1 c2 c3 c4 d0 d1 d2 d3 d4;obtain⟨F,hF⟩:=nA (Cz p m ml p' m' aE);have aI:=Aa (show QO ⟨p,m,ml,n,rows⟩ ⟨p',m',aE,n',aA⟩=(F&&(decide (n=n')&&decide (rows=aA))) from by rw[<-hF];rfl);rw[aI.o];clear aI;dsimp only[AR.arg,AR.obj]at *;rw[hF]at aF;clear hF;clear hc hd e1 e2 aB aH z1 z2 z3 z4;go_enter Tryz.func40,Tryz.ntmps40
 go_upto_region 1 with fail
 try simp only[hB]
 clear hB;generalize (w.alloc (.cells #[.int .i64 p,.int .i64 m,.slice x3 ml.length y3,.int .i64 n,.slice x1 rows.length y1] 39)).alloc (.cells #[.int .i64 p',.int .i64 m',.slice x4 aE.length y4,.int .i64 n',.slice x2 aA.length y2] 39)=wB at *;have aG:=Aa (fun w' (h:Ex wB w')=>(⟨h.cell c3,h.cell c4,h.cell d3,h.cell d4⟩:_/\_/\_/\_))
 cases F with
 | false=>
  go_wp2_with fail
  refine aF.o.mono ?_;rintro e w2⟨rfl,aD⟩;have aC:=Aa (HX.o.trans aD);clear c0 c1 c2 c3 c4 d0 d1 d2 d3 d4 aD;go_wp2_with fail
  go_ret;exact⟨rfl,aC.o⟩
 | true=>
  go_wp2_with fail
  refine aF.o.mono ?_;rintro e w2⟨rfl,aD⟩;have aC:=Aa aD;clear c0 c1 c2 c3 c4 d0 d1 d2 d3 d4 aD;obtain⟨c3,c4,d3,d4⟩:=aG.o w2 aC.o;by_cases hn:n=n'
  .subst hn;have k1:(n==n)=true:=by simp
   have HR:=Aa (aK.o w2 aC.o);obtain⟨D,hD⟩:=nA (decide (rows=aA));rw[hD]at HR;have HD:=Aa hD;clear hD;go_wp2_with fail
   refine HR.o.mono ?_;rintro e w3⟨rfl,n3,rfl⟩;have aJ:=Aa ((Ex.refl w2).drewN n3);go_wp2_with fail
   go_ret;refine⟨?_,HX.o.trans (aC.o.trans aJ.o)⟩;have:=HD.o;simp[this]
  .have k1:(n==n')=false:=by simpa using hn
   have HN:=Aa hn;clear hn;go_wp2_with fail
   go_ret;refine⟨?_,HX.o.trans aC.o⟩;have:=HN.o;simp[this]
theorem Zt{p m:Int}{ml:List Int}{aA:Int}{rows:List (List Int)}{e:Int}(h:Lx p m ml aA rows e):DE p m ml aA rows=e:=by
 unfold DE;rcases h with⟨pn,mn,rfl,rfl,h3,h4⟩|⟨h1,h2⟩
 .rw[if_neg (fun h=>h ((Cj _ _ _).2 h3)),h4];rfl
 .rw[if_pos (fun h=>h1 ((Cj _ _ _).1 h)),h2]
theorem O3{N:Nat}{rows:List (List Int)}(h:∀r∈rows,r.length=N):Aw N rows.length (Ao rows)=rows:=by
 apply List.ext_getElem?;intro i;by_cases hi:i<rows.length
 .rw[Dm hi,List.getElem?_eq_getElem hi,Vd (List.getElem?_eq_getElem hi) (h _ (List.getElem_mem hi))]
 .rw[List.getElem?_eq_none (by rw[AU];omega),List.getElem?_eq_none ac]
theorem TL{p m N:Nat}{rows:List (List Int)}(h:∀r∈rows,r.length=N/\B6 (p^m) r=0):Qq p m rows.length N (Ao rows):=fun i hi j hj=>by
 have aA:rows[i]?=some rows[i]:=List.getElem?_eq_getElem hi;obtain⟨h1,h2⟩:=h _ (List.getElem_mem hi);have e:Ao rows i j=rows[i].getD j 0:=by unfold Ao;rw[List.getD_eq_getElem?_getD (l:=rows),aA];rfl
 rw[e];exact zbV
theorem zbu{P:Prop}(h:P:=by
 clear hLR aF;go_wp2_with (go_at_call 27;refine aJ.o.mono ?_;rintro e w4⟨rfl,n3,aM⟩;subst aM)
 have aQ:=Aa (aR.o.drewN n3);go_wp2_with fail
 go_ret;exact⟨⟨_,rfl,aD.o⟩,aQ.o⟩):P:=h
theorem QZ(p m:Int)(ml:List Int)(mv:Value)(w:World)(aG:Aj w mv ml)(aA:Int)(rows:List (List Int))(v:Value)(hv:BY w v rows):
  Calls Tryz.prog 88 #[.agg #[.int .i64 p,.int .i64 m,mv],.agg #[.int .i64 aA,v]] w fun r w'=>(∃e:Int,r= .returned (.int .i64 e)/\L5 p m ml aA rows e)/\Ex w w':=by
 obtain⟨g0,g1,g2,e0,aP⟩:=Az w p m mv;have aV:=Aa (fun (w':World) (h:Ex w w')=>TV p m ml mv w' (aG.ex h) aA rows v (hv.ex h));have aZ:=Aa aG;have HV:=Aa hv;obtain⟨za,zc,rfl,z1,z2,z3⟩:=hv.open;clear z1 z3;unfold maxLen at z2;obtain⟨ma,mc,rfl,-,m2,-⟩:=aG.open;unfold maxLen at m2;obtain⟨xb,aY⟩:=nA w.heap.size;rw[aY]at g0 g1 g2 aP;clear aG hv;go_enter Tryz.func88,Tryz.ntmps88
 go_wp2_with fail
 generalize w.alloc (.cells #[.int .i64 p,.int .i64 m,.slice ma ml.length mc] 24)=wA at *;obtain⟨a0,a1,ea⟩:=Dq wA aA (.slice za rows.length zc);rw[aP]at a0 a1;generalize wA.alloc (.cells #[.int .i64 aA,.slice za rows.length zc] 137)=wB at *;obtain⟨A0,A1,G0,G1,G2,HE⟩:=To a0 a1 (ea.cell g0) (ea.cell g1) (ea.cell g2) (e0.trans ea);clear g0 g1 g2 a0 a1 e0 ea aP;refine(aV.o wB HE.o).mono ?_;rintro e w2⟨e,rfl,hc,aC⟩;obtain⟨aI,A0,A1,G0,G1,G2⟩:=To (HE.o.trans aC) (aC.cell A0.o) (aC.cell A1.o) (aC.cell G0.o) (aC.cell G1.o) (aC.cell G2.o);clear aC HE aV;have aE:=Zt hc;by_cases he:e=0
 .subst he;rcases hc with⟨pn,mn,rfl,rfl,hfb,hmk⟩|⟨_,h⟩
  .obtain⟨s1,s2,s3,s4⟩:=Ev hmk.symm;obtain⟨N,rfl⟩:∃N:Nat,aA=N:=⟨aA.toNat,ac⟩;have aB:∀r∈rows,r.length=N/\B6 (pn^mn) r=0:=fun r hr=>by obtain⟨h1,h2⟩:=s4 r hr;exact⟨ac,h2⟩
   have aN:GP pn mn ml/\GW pn mn (lw ml):=by
    obtain⟨aW,aX,e1,e2,h3,h4,h5⟩:=hfb;obtain rfl:aW=pn:=ac;obtain rfl:aX=mn:=ac;exact⟨h3,h5⟩
   have aU:=Aa (Q3 (mv:= .slice ma ml.length mc) w2 aN.1 aN.2 (aZ.o.ex aI.o) N rows.length ac s3 (Ao rows) (TL aB) _ (by rw[O3 fun r hr=>(aB r hr).1];exact HV.o.ex aI.o));have aK:=Aa (fun piv a' e (aH:Hs pn mn ml N rows.length (Ao rows) a' piv) (h:e=if Aw N piv.length a'=rows then 0 else 5)=>show L5 pn mn ml N rows e from .inr ⟨aE,pn,mn,N,piv,a',rfl,rfl,rfl,hfb,hmk.symm,aH,h⟩);have c0:=A0.o;have c1:=A1.o;have c2:=G0.o;have c3:=G1.o;have c4:=G2.o;clear aE hfb hmk s1 s2 s3 s4 aB aN;go_wp2_with fail
   refine aU.o.mono ?_;rintro e w3⟨piv,pv,rv,a',rfl,aH,aO,aT,aL⟩;have aR:=Aa (aI.o.trans aL);have c1:=aL.cell A1.o;obtain⟨L,hL⟩:=nA (Aw N piv.length a');have aJ:=Aa (Dx w3 L rows _ _ (by rw[<-hL];exact aO) (HV.o.ex aR.o));have aF:=Aa (fun e=>aK.o piv a' e aH);rw[hL]at aF;obtain⟨ra,rc,aS,-,r2,-⟩:=aO.open;rw[hL]at aS;subst aS;obtain⟨pa,pc,rfl,-,p2,-⟩:=aT.open;clear aH aO aT aL hL r2 p2 aU aK;by_cases hLR:L=rows
   .rw[decide_eq_true hLR]at aJ;have aD:=Aa (aF.o 0 (by rw[if_pos hLR]));exact zbu
   .rw[decide_eq_false hLR]at aJ;have aD:=Aa (aF.o 5 (by rw[if_neg hLR]));exact zbu
  .exact absurd h ae
 .have kb:(e !=0)=true:=by simpa using he
  have aK:=Aa (show L5 p m ml aA rows e from .inl ⟨by rw[aE];exact he,aE.symm⟩);clear hc aE;go_wp2_with fail
  go_ret;exact⟨⟨_,rfl,aK.o⟩,aI.o⟩
structure Chn where
 deg:Int
 lev:List Lv
noncomputable def Da(n:Int)(rows:List (List Int)):Chn × Int:=if El n rows≠0 then(⟨0, []⟩,El n rows) else(⟨n,Ce n.toNat (rows.map CG) n.toNat⟩,0)
def ZJ(n:Int)(rows:List (List Int))(r:Ending)(w':World):Prop:=∃v,r= .returned (.tuple #[.agg #[.int .i64 (Da n rows).1.deg,v],.int .i64 (Da n rows).2])/\Er w' v (Da n rows).1.lev
theorem J0{n:Int}{rows:List (List Int)}{d:Int}{L:List Lv}{e:Int}{v:Value}{w':World}(h:Da n rows=(⟨d,L⟩,e))(hv:Er w' v L):ZJ n rows (.returned (.tuple #[.agg #[.int .i64 d,v],.int .i64 e])) w':=⟨v,by rw[h],by rw[h];exact hv⟩
theorem zcH{P:Prop}(h:P:=by
 apply Classical.byContradiction;intro hn;have:n=0:=by omega
 subst this;omega):P:=h
theorem Sv{w:World}{q:Nat}{z:Int}(h0:w.cell? ⟨q,0,none⟩=some (.int .i64 z))(h1:w.cell? ⟨q,1,none⟩=some (.slice none 0 0))(h2:∀j,2<=j->w.cell? ⟨q,j,none⟩=none){v:Value}{n size:Nat}{xs:List Value}(h:Sl w v n size xs)(hl:2<=xs.length)(hx:xs[0]?≠some (.int .i64 z)∨xs[1]?≠some (.slice none 0 0)):v.ownBlock≠some q:=by
 intro e;obtain⟨k1,a,cap,rfl,_,_,k5⟩:=h;have hn:0<n:=by
  exact zcH
 obtain⟨b,o,rfl,k6⟩:=k5 hn;injection e with e;have e:b=q:=e;subst e;have x0:=k6 0 _ (List.getElem?_eq_getElem ac);have x1:=k6 1 _ (List.getElem?_eq_getElem ac);have ho:o=0:=by
  apply Classical.byContradiction;intro ho;have:=h2 (o+1) ac;rw[x1]at this;cases this
 subst ho;rw[h0]at x0;rw[h1]at x1;injection x0 with x0;injection x1 with x1;rcases hx with hx|hx
 .exact hx (by rw[List.getElem?_eq_getElem ac,<-x0])
 .exact hx (by rw[List.getElem?_eq_getElem ac,<-x1])
theorem Sl.set2{w:World}{v:Value}{n size:Nat}{xs:List Value}(h:Sl w v n size xs){q:Nat}(hq:v.ownBlock≠some q)(u u':Value):Sl ((w.setCell ⟨q,0,none⟩ u).setCell ⟨q,1,none⟩ u') v n size xs:=by
 obtain⟨k1,a,cap,rfl,k3,k4,k5⟩:=h;refine⟨k1,a,cap,rfl,k3,k4,fun hn=>?_⟩;obtain⟨b,o,rfl,k6⟩:=k5 hn;have hb:q≠b:=fun e=>hq (by rw[e];rfl);refine⟨b,o,rfl,fun j x hx=>?_⟩;rw[World.cell?_setCell_other _ _ _ _ (by intro e;injection e with e;exact hb e),World.cell?_setCell_other _ _ _ _ (by intro e;injection e with e;exact hb e)];exact k6 j x hx
theorem Er.set2{w:World}{q:Nat}{z:Int}(h0:w.cell? ⟨q,0,none⟩=some (.int .i64 z))(h1:w.cell? ⟨q,1,none⟩=some (.slice none 0 0))(h2:∀j,2<=j->w.cell? ⟨q,j,none⟩=none){v:Value}{L:List Lv}(h:Er w v L)
  (hL:∀l∈L,2<=l.orb.length/\2<=l.reps.length/\∀r∈l.reps,2<=r.length) (u u':Value):Er ((w.setCell ⟨q,0,none⟩ u).setCell ⟨q,1,none⟩ u') v L:=by
 obtain⟨os,k1,k2,k3⟩:=h;have aA:∀ {y:Value} {l:List Int},Aj w y l->2<=l.length->Aj ((w.setCell ⟨q,0,none⟩ u).setCell ⟨q,1,none⟩ u') y l:=fun {y l} hy hl=>
  Sl.set2 hy (Sv h0 h1 h2 hy (by rw[Bb];exact hl) (.inr (by
   unfold An;rw[List.getElem?_map]
   cases l[1]? with
   | none=>simp
   | some x=>simp))) u u'
 refine⟨os,k1,?_,fun i l o a c=>?_⟩
 .by_cases hn:0<L.length
  .refine Sl.set2 k2 (fun e=>?_) u u';obtain⟨m1,a,cap,rfl,_,_,m5⟩:=k2;obtain⟨b,o,rfl,m6⟩:=m5 hn;injection e with e;have e:b=q:=e;subst e;have hl3:=NG L os k1;have:=m6 2 _ (List.getElem?_eq_getElem ac);rw[h2 (o+2) ac]at this;cases this
  .obtain⟨m1,a,cap,rfl,m3,m4,m5⟩:=k2;exact⟨m1,a,cap,rfl,m3,m4,fun h=>absurd h hn⟩
 .obtain⟨g1,vals,g2,g3⟩:=k3 i l o a c;obtain⟨b1,b2,b3⟩:=hL l (List.mem_of_getElem? a);refine⟨aA g1 b1,vals,?_,fun j r y hr hy=>aA (g3 j r y hr hy) (b3 r (List.mem_of_getElem? hr))⟩;have hvl:vals.length=l.reps.length:=by have:=g2.1;omega
  refine Sl.set2 g2 (Sv h0 h1 h2 g2 ac (.inl fun e=>?_)) u u';have aB:l.reps[0]?=some (l.reps[0]'ac):=List.getElem?_eq_getElem _;obtain⟨_,_,e2,_⟩:=(g3 0 _ _ aB e).open;cases e2
theorem Qf{n:Nat}{S:List (Nat->Nat)}{m:Nat}{l:Lv}(h:l∈Ce n S m):2<=l.orb.length/\2<=l.reps.length/\∀r∈l.reps,2<=r.length:=by
 unfold Ce at h;obtain⟨h1,h2⟩:=List.mem_filter.1 h;obtain⟨b,_,rfl⟩:=List.mem_map.1 h1;have h2:1<(CO (Bn S b n)).length:=of_decide_eq_true h2;rw[Ci]at h2;have h3:=Fm S b n;refine⟨by show 2<=(CO (Bn S b n)).length;rw[Ci];omega,by show 2<=(DZ n S b n).length;unfold DZ;rw[List.length_map];omega,fun r hr=>?_⟩;have hr:r∈DZ n S b n:=hr;unfold DZ at hr;obtain⟨x,_,rfl⟩:=List.mem_map.1 hr;rw[Co];omega
theorem YA(n:Nat):Qz n (ND n) 0:=fun c _ _=>by
 have:=Yz n (ND n) c;show 0+_<=_
 omega
theorem Na(w:World)(n:Int)(rows:List (List Int))(v:Value)(hv:BY w v rows)(hrl:rows.length<=1000):
  Calls Tryz.prog 123 #[.int .i64 n,v] w fun r w'=>ZJ n rows r w'/\Ex w w':=by
 have ea:Ex w (w.alloc (.cells #[.int .i64 0,.slice none 0 0] 43)):=(Ex.refl _).alloc _;have q0:(w.alloc (.cells #[.int .i64 0,.slice none 0 0] 43)).cell? ⟨w.heap.size,0,none⟩=some (.int .i64 0):=ag;have q1:(w.alloc (.cells #[.int .i64 0,.slice none 0 0] 43)).cell? ⟨w.heap.size,1,none⟩=some (.slice none 0 0):=ag;have q2:∀j,2<=j->(w.alloc (.cells #[.int .i64 0,.slice none 0 0] 43)).cell? ⟨w.heap.size,j,none⟩=none:=fun j hj=>by
  obtain⟨i,rfl⟩:∃i,j=i+2:=⟨j-2,ac⟩;simp
 have aE:(w.alloc (.cells #[.int .i64 0,.slice none 0 0] 43)).frozen? ⟨w.heap.size,0,none⟩=false:=ag;have aD:(w.alloc (.cells #[.int .i64 0,.slice none 0 0] 43)).frozen? ⟨w.heap.size,1,none⟩=false:=ag;have HV:=Aa hv;have HG:=Aa (fun w1 (h:Ex w w1)=>Gr w1 n rows v (hv.ex h));obtain⟨a,cap,rfl,_,s2,_⟩:=hv.open;unfold maxLen at s2;obtain⟨e,he⟩:=nA (El n rows);rw[he]at HG;clear hv;go_enter Tryz.func123,Tryz.ntmps123
 go_wp2_with fail
 obtain⟨q,hq⟩:=nA w.heap.size;rw[hq]at q0 q1 aE aD q2
 try simp only[hq]
 have HQ:=Aa hq;have aP:=Aa ea;clear hq;generalize w.alloc (.cells #[.int .i64 0,.slice none 0 0] 43)=wR at *;refine(HG.o wR ea).mono ?_;rintro e' w1⟨rfl,aC⟩;have aO:=Aa aC;have aB:=World.block_lt_of_cell? _ _ q0;have Q2:=Aa (show ∀j,2<=j->w1.cell? ⟨q,j,none⟩=none from fun j hj=>(Below.cell aC (show(⟨q,j,none⟩:Addr).block<wR.heap.size from aB)).trans (q2 j hj));have aX:=aC.frz q0 aE;have aW:=aC.frz q1 aD;have q0:=aC.cell q0;have q1:=aC.cell q1;clear aC aE aD ea HG q2 aB;by_cases h0:e=0
 .subst h0;obtain⟨N,rfl,aN,aS,S,aM,hS⟩:=JW he;have HP:=Aa (show Da N rows=(⟨N,Ce N S N⟩,0) from by unfold Da;rw[he,if_neg ae,aM,Ei hS];rfl);have HS:=Aa hS;have bQ:=Aa aM;have bC:S.length=rows.length:=by rw[aM];simp
  obtain⟨bG,bT,Q0,Q1,bM,bL⟩:=To bC (NC w1 N aN aS) q0 q1 aX aW;clear he hS aM bC q0 q1 aX aW;go_wp2_with (go_at_call 173;refine bT.o.mono ?_;rintro e w2⟨tb,rb,gb,rr,mb,rfl,aA,aZ⟩;have bF:=Aa aA;have bE:=Aa aZ;clear aA aZ)
  have bI:=Aa (ID.start (n:=N) (S:=S));have bH:=Aa (YA N)
  go_loopw [21] (fun k' wr=>∃(k:Nat) (aH:List Nat) (tc:Tw),k<=rows.length/\k'= .int .i64 k/\Hia (UB wr w1.heap.size N tb rb gb rr aH tc)/\Hia (ID N S tc k)/\Hia (Qz N tc 0)/\Hia (Ex w1 wr)) (fun k' _=>rows.length-(intOf k').toNat)
  case atStart=>exact⟨0,mb,ND N,ac,rfl,bF,bI,bH,bE⟩
  case round=>
   clear bF bI bH bE;obtain⟨k,aH,tc,hk,rfl,aA,aG,aR,hx⟩:=hrel;by_cases hkn:k<rows.length
   .obtain⟨s,hs⟩:∃s,S[k]?=some s:=⟨_,List.getElem?_eq_getElem (by rw[bG.o];exact hkn)⟩;have bB:rows[k]?=some (li N s):=by rw[bQ.o,List.getElem?_map,hs];rfl
    have bA:=HS.o s (List.mem_of_getElem? hs);obtain⟨_,_,e1,_,_,h3⟩:=HV.o.open;injection e1 with e1 e2 e3;subst e1 e3;obtain⟨zb,zo,rfl,aY⟩:=h3 ac;obtain⟨u,d1,hu⟩:=aY k _ bB;have bJ:=Aa (aP.o.trans (aO.o.trans hx.o));have d1:=bJ.o.cell d1;obtain⟨ua,uc,rfl,_,_,_⟩:=DQ hu;obtain⟨pb,po,rfl,hpb,_⟩:=Eo hu ac;have bS:=Aa (Cw.of (mb:=aH) (hu.ex bJ.o) aN fun B eB hm=>by
     injection eB with eB;have eB:pb=B:=eB;subst eB;obtain⟨gv,V,hM⟩:=aA.o;have h5:=(hM.lo pb hm).1;have h6:=(aP.o.trans aO.o).size;omega)
    have i1:(0:Int)<=(k:Int):=ac;have i2:(k:Int)<(rows.length:Int):=ac;obtain⟨bX,bV,cA,bR⟩:=Eq (YS (base:=w1.heap.size) (tb:=tb) (rb:=rb) (gb:=gb) (rr:=rr) aN aS (Sy N tc 0) wr aH tc s _ 0 (fun _=>Nat.le_refl _) (Nat.zero_le _) aA.o aG.o.good (fun c _ hc=>aG.o.comp c hc) bS.o bA (fun i hi=>ac) hx.o.size aR.o) (show ∀B∈aH,w1.heap.size<=B from by obtain⟨gv,V,hM⟩:=aA.o;exact fun B hB=>(hM.lo B hB).1) aG.o hs;clear hs bB bA h3 aY hu aA aG aR;go_wp2_with (go_at_call 174;refine bX.o.mono ?_;rintro e w3⟨⟨zz,rfl⟩,mb3,t3,aI,aK,aJ,aL⟩;have aT:=Aa aI;have aU:=Aa aK;have bP:=Aa (aJ.ex hx.o bV.o);have aV:=Aa aL;clear aI aK aJ aL)
    have cB:=Aa (cA.o.step HS.o bR.o aU.o);go_roundw
    case rel=>exact⟨k+1,mb3,t3,ac,by go_num,aT,cB,aV,bP⟩
    case measure=>simp[intOf];omega
   .obtain rfl:k=rows.length:=by omega
    have bZ:=Aa (Uy wr aA.o aG.o (by rw[bG.o];exact Nat.le_refl _) HS.o aN aS);have q0:=hx.o.cell Q0.o;have q1:=hx.o.cell Q1.o;have aE:=hx.o.frz Q0.o bM.o;have aD:=hx.o.frz Q1.o bL.o;have bN:=Aa hx.o;clear aA aG aR hx;go_wp2_with (go_at_call 175;refine bZ.o.mono ?_;rintro e w4⟨lv,rfl,aQ,aF⟩;obtain⟨la,lc,bK,_,_,_⟩:=aQ.open;subst bK;have aE:=aF.frz q0 aE;have aD:=aF.frz q1 aD;have q0:=aF.cell q0;have q1:=aF.cell q1;have bU:=Aa aQ;have bO:=Aa aF;clear aQ aF)
    have bD:=Aa (bN.o.trans bO.o);have bY:=Aa (aP.o.trans (aO.o.trans bD.o));have aB:=World.block_lt_of_cell? _ _ Q0.o;have bW:=Aa (bU.o.set2 q0 q1 (fun j hj=>(Below.cell bD.o (show(⟨q,j,none⟩:Addr).block<w1.heap.size from aB)).trans (Q2.o j hj)) (fun l hl=>Qf hl) (.int .i64 N) (.slice la (Ce N S N).length lc));exact bodyPost_ret (v:= .tuple #[.agg #[.int .i64 N,.slice la (Ce N S N).length lc],.int .i64 0]) (by simp[results,Tryz.results123,go_sem,q0,q1]) rfl ⟨J0 HP.o bW.o,(bY.o.setCell (p:=⟨q,0,none⟩) (Nat.le_of_eq HQ.o) _).setCell (p:=⟨q,1,none⟩) (Nat.le_of_eq HQ.o) _⟩
 .have HP:=Aa (show Da n rows=(⟨0, []⟩,e) from by unfold Da;rw[he,if_pos h0]);have hb:(e !=0)=true:=by simpa using h0
  clear h0 he;go_wp2_with fail
  exact bodyPost_ret (v:= .tuple #[.agg #[.int .i64 0,.slice none 0 0],.int .i64 e]) (by simp[results,Tryz.results123,go_sem,q0,q1]) rfl ⟨J0 HP.o (Er.nil _),((aP.o.trans aO.o).setCell (p:=⟨q,0,none⟩) (Nat.le_of_eq HQ.o) _).setCell (p:=⟨q,1,none⟩) (Nat.le_of_eq HQ.o) _⟩
def Gk:List Int->List Int->Bool
 | x :: l,y :: k=>if x=y then Gk l k else decide (x<y)
 | _,_=>false
theorem MD:∀ {l k:List Int} {i:Nat} {x y:Int},l[i]?=some x->k[i]?=some y->x≠y->(∀j,j<i->l[j]?=k[j]?)->Gk l k=decide (x<y)
 | x' :: l,y' :: k,0,x,y,h1,h2,hne,_=>by
  simp at h1 h2;subst h1 h2;unfold Gk;rw[if_neg hne]
 | x' :: l,y' :: k,i+1,x,y,h1,h2,hne,ha=>by
  have h0:=ha 0 ac;simp at h0;subst h0;unfold Gk;rw[if_pos rfl];exact MD (i:=i) bt dw hne fun j hj=>by
   have:=ha (j+1) ac;simpa using this
 | [],k,i,x,y,h1,_,_,_=>by simp at h1
 | x' :: l, [],i,x,y,_,h2,_,_=>by simp at h2
theorem KL:∀ {l k:List Int},(∀j,j<l.length->l[j]?=k[j]?)->Gk l k=false
 | [],k,_=>by unfold Gk;rfl
 | x :: l, [],h=>by
  have:=h 0 ag;simp at this
 | x :: l,y :: k,h=>by
  have h0:=h 0 ag;simp at h0;subst h0;unfold Gk;rw[if_pos rfl];exact KL fun j hj=>by
   have:=h (j+1) (by simpa using hj);simpa using this
def fixB(b:Nat)(f:Nat->Nat):Bool:=(List.range b).all fun i=>f i==i
theorem WB(b:Nat)(f:Nat->Nat):fixB b f=true↔AX b f:=by
 unfold fixB AX;rw[List.all_eq_true];exact⟨fun h i hi=>by simpa using h i (List.mem_range.2 hi),fun h i hi=>by simpa using h i (List.mem_range.1 hi)⟩
def BH:Nat:=4294967296
theorem Iw:0<BH:=ae
def vS(f:Nat->Nat):Nat->Nat
 | 0=>0
 | n+1=>vS f n+f n*BH^n
theorem Hx{f g:Nat->Nat}:∀ {n},(∀k,k<n->f k=g k)->vS f n=vS g n
 | 0,_=>rfl
 | n+1,h=>by unfold vS;rw[Hx fun k hk=>h k (by omega),h n (by omega)]
theorem OQ{f:Nat->Nat}:∀n,(∀k,k<n->f k<BH)->vS f n<BH^n
 | 0,_=>by unfold vS;decide
 | n+1,h=>by
  have h1:=OQ n fun k hk=>h k ac;have h2:f n+1<=BH:=h n ac;have h3:=Nat.mul_le_mul_right (BH^n) h2;rw[Nat.add_mul,Nat.one_mul]at h3;unfold vS;rw[Nat.pow_succ,Nat.mul_comm (BH^n) BH];omega
theorem QD{f:Nat->Nat}{j x:Nat}:∀ {n},j<n->vS (Ay f j x) n+f j*BH^j=vS f n+x*BH^j
 | 0,h=>by omega
 | n+1,h=>by
  by_cases e:j=n
  .subst e;unfold vS;have h1:vS (Ay f j x) j=vS f j:=Hx fun k hk=>by unfold Ay;rw[if_neg ac]
   have h2:Ay f j x j=x:=by unfold Ay;rw[if_pos rfl]
   rw[h1,h2];omega
  .have h1:=QD (f:=f) (x:=x) (n:=n) (j:=j) ac;have h2:Ay f j x n=f n:=by unfold Ay;rw[if_neg ac]
   unfold vS;rw[h2];omega
theorem Nh{f:Nat->Nat}:∀ {n m},m<=n->(∀k,m<=k->k<n->f k=0)->vS f n=vS f m
 | 0,m,h,_=>by rw[show m=0 by omega]
 | n+1,m,h,h0=>by
  by_cases e:m=n+1
  .rw[e]
  .show vS f n+f n*BH^n=vS f m
   rw[h0 n (by omega) (by omega),Nat.zero_mul,Nat.add_zero];exact Nh (by omega) fun k h1 h2=>h0 k h1 (by omega)
structure Jn(n:Nat)(f:Nat->Nat):Prop where
 lt:∀k,k<n->f k<BH
 top:∀m,n=m+1->f m≠0
theorem Jn.ge{m:Nat}{f:Nat->Nat}(h:Jn (m+1) f):BH^m<=vS f (m+1):=by
 have h1:1<=f m:=Nat.one_le_iff_ne_zero.2 (h.top m rfl);have:=Nat.mul_le_mul_right (BH^m) h1;unfold vS;omega
theorem Jn.len{n m:Nat}{f:Nat->Nat}(h:Jn n f)(hv:vS f n<BH^m):n<=m:=by
 cases n with
 | zero=>omega
 | succ k=>
  have h1:=h.ge;have h2:BH^k<BH^m:=ac;have:=(Nat.pow_lt_pow_iff_right (by decide:1<BH)).1 h2;omega
theorem zct{P:Prop}(h:P:=by
 have:=Nat.mul_le_mul_right (BH^n) h3;rw[Nat.add_mul,Nat.one_mul]at this;omega):P:=h
theorem UQ{f g:Nat->Nat}:∀n,(∀k,k<n->f k<BH)->(∀k,k<n->g k<BH)->vS f n=vS g n->∀k,k<n->f k=g k
 | 0,_,_,_,k,hk=>by omega
 | n+1,hf,hg,h,k,hk=>by
  have h1:=OQ n fun k hk=>hf k ac;have h2:=OQ n fun k hk=>hg k ac;unfold vS at h;have e:f n=g n:=by
   apply Classical.byContradiction;intro aA;rcases Nat.lt_or_gt_of_ne aA with h3|h3
   .have h3:f n+1<=g n:=h3;exact zct
   .have h3:g n+1<=f n:=h3;exact zct
  by_cases e2:k=n
  .subst e2;exact e
  .rw[e]at h;exact UQ n (fun k hk=>hf k ac) (fun k hk=>hg k ac) ac k ac
theorem Jn.uniq{n m:Nat}{f g:Nat->Nat}(hf:Jn n f)(hg:Jn m g)(h:vS f n=vS g m):n=m/\∀k,k<n->f k=g k:=by
 have h1:n<=m:=hf.len (by rw[h];exact OQ m hg.lt);have h2:m<=n:=hg.len (by rw[<-h];exact OQ n hf.lt);have e:n=m:=by omega
 subst e;exact⟨rfl,UQ n hf.lt hg.lt h⟩
structure RT(N i m:Nat)(a b:Nat->Nat)(f:Nat->Nat)(c j:Nat):Prop where
 lt:∀k,k<N->f k<BH
 zero:∀k,i+m<=k->f k=0
 cl:c<BH
 val:vS f N+c*BH^(i+j)=vS a i*vS b m+a i*vS b j*BH^i
structure RU(N i m:Nat)(a b:Nat->Nat)(f:Nat->Nat):Prop where
 lt:∀k,k<N->f k<BH
 zero:∀k,i+m<=k->f k=0
 val:vS f N=vS a i*vS b m
theorem RU.start(N m:Nat)(a b:Nat->Nat):RU N 0 m a b (fun _=>0):=
 ⟨fun _ _=>Iw,fun _ _=>rfl,by rw[Nh (m:=0) (Nat.zero_le _) fun _ _ _=>rfl];unfold vS;rw[Nat.zero_mul]⟩
theorem RU.inner{N i m:Nat}{a b f:Nat->Nat}(h:RU N i m a b f):RT N i m a b f 0 0:=
 ⟨h.lt,h.zero,Iw,by rw[h.val,Nat.zero_mul];show _=_+a i*0*_;rw[Nat.mul_zero,Nat.zero_mul]⟩
theorem MC{x y u c:Nat}(hx:x<BH)(hy:y<BH)(hu:u<BH)(hc:c<BH):x*y+u+c<BH*BH:=by
 have h1:x<=BH-1:=ac;have h2:y<=BH-1:=ac;have h3:=Nat.mul_le_mul h1 h2;have h4:(BH-1)*(BH-1)+(BH-1)+(BH-1)<BH*BH:=ae;omega
theorem RT.step{N i m:Nat}{a b f:Nat->Nat}{c j:Nat}(h:RT N i m a b f c j)(hj:j<m)(hN:i+m<=N)(ha:a i<BH)(hb:b j<BH):
  RT N i m a b (Ay f (i+j) ((a i*b j+f (i+j)+c)%BH)) ((a i*b j+f (i+j)+c)/BH) (j+1):=by
 refine⟨fun k hk=>?_,fun k hk=>?_,?_,?_⟩
 .unfold Ay;split
  .exact Nat.mod_lt _ Iw
  .exact h.lt k hk
 .unfold Ay;rw[if_neg ac];exact h.zero k hk
 .exact Nat.div_lt_of_lt_mul (MC ha hb (h.lt (i+j) ac) h.cl)
 .have h1:=QD (f:=f) (j:=i+j) (x:=(a i*b j+f (i+j)+c)%BH) (n:=N) ac;have h2:=h.val;have h3:=Nat.div_add_mod (a i*b j+f (i+j)+c) BH;generalize (a i*b j+f (i+j)+c)/BH=q at *;generalize (a i*b j+f (i+j)+c)%BH=r at *;generalize vS (Ay f (i+j) r) N=V at *;have h4:(BH*q+r)*BH^(i+j)=(a i*b j+f (i+j)+c)*BH^(i+j):=by rw[h3]
  have h5:BH^(i+(j+1))=BH^(i+j)*BH:=by rw[<-Nat.add_assoc,Nat.pow_succ]
  have h6:BH^(i+j)=BH^j*BH^i:=by rw[Nat.add_comm,Nat.pow_add]
  have h7:vS b (j+1)=vS b j+b j*BH^j:=rfl;rw[h5,h7];rw[Nat.add_mul]at h4;rw[Nat.add_mul,Nat.add_mul]at h4;have h8:BH*q*BH^(i+j)=q*(BH^(i+j)*BH):=by rw[Nat.mul_comm BH q,Nat.mul_assoc,Nat.mul_comm BH]
  have h9:a i*(vS b j+b j*BH^j)*BH^i=a i*vS b j*BH^i+a i*b j*BH^(i+j):=by
   rw[Nat.mul_add,Nat.add_mul,h6];simp only[Nat.mul_assoc]
  rw[h9];rw[h8]at h4;omega
theorem RT.fin{N i m:Nat}{a b f:Nat->Nat}{c:Nat}(h:RT N i m a b f c m)(hN:i+m<N):RU N (i+1) m a b (Ay f (i+m) c):=by
 refine⟨fun k hk=>?_,fun k hk=>?_,?_⟩
 .unfold Ay;split
  .exact h.cl
  .exact h.lt k hk
 .unfold Ay;rw[if_neg ac];exact h.zero k ac
 .have h1:=QD (f:=f) (j:=i+m) (x:=c) (n:=N) hN;rw[h.zero (i+m) (Nat.le_refl _),Nat.zero_mul,Nat.add_zero]at h1;rw[h1,h.val];show _=(vS a i+a i*BH^i)*vS b m
  rw[Nat.add_mul,Nat.mul_right_comm]
structure M4(f:Nat->Nat)(N n:Nat):Prop where
 le:n<=N
 val:vS f n=vS f N
theorem M4.step{f:Nat->Nat}{N n:Nat}(h:M4 f N (n+1))(h0:f n=0):M4 f N n:=
 ⟨by have:=h.le;omega,by rw[<-h.val,show vS f (n+1)=vS f n+f n*BH^n from rfl,h0];omega⟩
theorem M4.fin{f:Nat->Nat}{N n:Nat}(h:M4 f N n)(hl:∀k,k<N->f k<BH)(h0:∀m,n=m+1->f m≠0):Jn n f:=⟨fun k hk=>hl k (by have:=h.le;omega),h0⟩
theorem sortOK:RQ:=by
 intro w base v l hv h1 h2;rcases hv.2 with⟨_,h0⟩|⟨g,cap,cur,rfl,hbase,hb,c1,c2,c3,c4⟩
 .omega
 .have aA:cur.toList.take l.length=l.map (Value.int .i64):=by simpa[An]using c4
  have hg:g<w.heap.size:=(Array.getElem?_eq_some_iff.1 hb).1;refine(Tryz.slices_Sort_int g 0 cap l w (holds_of_blockI hb aA) hg ac).mono ?_;rintro e w'⟨rfl,n,os,rfl⟩;have hl:(l.mergeSort fun x y=>decide (x<=y)).length=l.length:=List.length_mergeSort _;exact⟨rfl,ownsRow_sortedI hl hbase hb c1 c2 c3,grownBy_sortedI _⟩
section
variable {p m:Nat} {ml:List Int} {N k:Nat} {a:Nat->Nat->Int} {piv:List Nat} {c:Nat} {f:Nat->Int}
end
end Go.Proofs.YtehieobniamagaaGreat
