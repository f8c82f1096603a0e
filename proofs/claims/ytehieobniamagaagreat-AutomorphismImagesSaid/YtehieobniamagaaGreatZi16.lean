/- Walk of automorphism.points, of. -/
import Derived.Test.YtehieobniamagaaGreatZi15
namespace Go.Proofs.YtehieobniamagaaGreat
open Nat renaming le_trans→μ,succ_mul→ζg,le_refl→ζ,le_of_eq→δw
open Int renaming natCast_mul→γb,natCast_sub→θz
open List renaming getD_eq_getElem?_getD→δ,getElem?_eq_getElem→γ,getElem_mem→Ϙ,getElem?_eq_none→ϛ,range→ξ,range_succ→γg,map_append→δe,length_append→ν,getElem?_append_left→ο,getElem?_append_right→τ,flatMap_append→δf
open Go.World renaming cell?_setCell_same→φ,ownsRow_nil→ϋ
open Go.RowKit
set_option linter.all false
set_option maxRecDepth 100000
set_option maxHeartbeats 4000000
theorem zcL{P:Prop}(h:P:=by
 go_enter Tryz.func53,Tryz.ntmps53
 go_wp2_with fail
 go_ret2;exact⟨rfl,rfl⟩):P:=h
theorem Hu(w:World)(n q:Nat)(hn:n<=64)(aA:1<=q)(hq:q<=256):
  Calls Tryz.prog 53 #[n,q] w fun r w'=>r= .returned (.tuple #[((if 64<n*(q-1) then 0 else n*(q-1):Nat):Int),.int .i64 (if 64<n*(q-1) then 8 else 0)])/\w=w':=by
 obtain⟨D,hD⟩:=nA (n*(q-1));have hDb:D<=20000:=by rw[<-hD];exact μ (Nat.mul_le_mul hn (show q-1<=255 by omega)) ac
 have k1:(n:Int)*((q:Int)-1)=(D:Int):=by rw[<-hD,γb,θz aA];rfl
 rw[hD];clear hD;by_cases h:64<D
 .rw[if_pos h,if_pos h];have h2:(64:Int)<(D:Int):=by omega
  exact zcL
 .rw[if_neg h,if_neg h];have h2:¬(64:Int)<(D:Int):=by omega
  exact zcL
def Pi(p m:Nat)(ml pl sl:List Int)(k:Nat):Int:=
 ((BJ pl (k/(p^m-1))*(p^m-1)+Am p m (lw ml) (Av (p^m) (sl.getD (k/(p^m-1)) 0)) (k%(p^m-1)+1):Nat):Int)-1
def J8(p m:Nat)(ml pl sl:List Int):List Int:=il (pl.length*(p^m-1)) (Pi p m ml pl sl)
section
variable {b p m x0:Nat} {ml:List Int}
theorem RS(w:World)(hg:Bh w b p m ml x0)(N:Nat)(hN:N<=64)(pl sl:List Int)(pv sv:Value)(hp:Ak w pv pl)(hs:Ak w sv sl)(aI:pl.length=N)(aH:sl.length=N)(hr:BW pl N=true)(hd:N*(p^m-1)<=64)(fr:Int):
  Calls Tryz.prog 55 #[(b,0),.agg #[pv,sv,fr]] w fun r w'=>∃v,r= .returned v/\w'.ownsRow w.heap.size 3 1 v (N*(p^m-1)) (vs (N*(p^m-1)) (iv (Pi p m ml pl sl)))/\Ex w w':=by
 obtain⟨b0,b1,b2,eb⟩:=BA w pv sv fr;have bE:=Aa (fun (w1:World) (h1:Ex w w1) (y z:Int)=>EZ w1 (hg.ex h1) y z);have aO:=Aa (Cv _ (hg.ex eb));have bN:2<=p^m:=μ hg.sh.p2 (Nat.le_self_pow (by have:=hg.sh.m1;omega) p);have bM:=hg.sh.q;have bG:=Aa (fun (x y:Nat)=>A7 (p:=p) (m:=m) (low:=lw ml) (by have:=hg.sh.p2;omega) x y);obtain⟨pa,pc,rfl,_,q2,p3⟩:=hp.open;obtain⟨sa,sc,rfl,_,s2,s3⟩:=hs.open;unfold maxLen at q2 s2;rw[aI]at p3;rw[aH]at s3;obtain⟨P3,S3,bS,bX,bW⟩:=On p3 s3 (fun i (hi:i<N)=>EV hr (i:=i) ac) (fun i (hi:i<N)=>AZ (l:=pl) (i:=i) ac) (fun i (hi:i<N)=>AZ (l:=sl) (i:=i) ac);rw[aI,aH]at b0 b1 eb aO ⊢;have aF:=Aa eb;obtain⟨q,hq⟩:=nA (p^m);obtain⟨Q,hQ⟩:=nA (q-1);obtain⟨F,hF⟩:=nA (Pi p m ml pl sl);have bY:Hia (∀i c:Nat,c<Q->F (i*Q+c)=((BJ pl i*Q+Am p m (lw ml) (Av q (sl.getD i 0)) (c+1):Nat):Int)-1):=Aa (fun i c hc=>by
  rw[<-hF];unfold Pi;rw[hq,hQ,Nat.mul_comm i Q,Nat.mul_add_div ac,Nat.mul_add_mod,Nat.div_eq_of_lt hc,Nat.mod_eq_of_lt hc,Nat.add_zero])
 rw[hq]at aO bE bG bN bM hd ⊢;rw[hQ]at hd ⊢;rw[hF];obtain⟨D,hD⟩:=nA (N*Q);have bK:Hia (∀i,i<N->i*Q+Q<=D):=Aa (fun i hi=>by rw[<-hD];have:=Nat.mul_le_mul_right Q (show i+1<=N from hi);rwa[ζg]at this);have k1:(N:Int)*((q:Int)-1)=(D:Int):=by rw[<-hD,<-hQ,γb,θz ac];rfl
 rw[hD]at hd ⊢;have HQ:=Aa (show(q:Int)-1=(Q:Int) from ac);have aN:Hia (q=Q+1):=Aa (ac);have cB:=Aa hD;clear hg hp hs p3 s3 eb aI aH hr hF hq hQ hD;go_enter Tryz.func55,Tryz.ntmps55
 go_upto_region 1 with fail
 obtain⟨B,hB⟩:=nA w.heap.size;rw[hB]at b0 b1 b2
 try simp only[hB]
 have HBW:=Aa hB;clear hB;generalize w.alloc (.cells #[(pa,N,pc),(sa,N,sc),fr] 26)=w1 at *;go_upto_region 2 with (go_at_call 54;refine aO.o.mono ?_;rintro e w2⟨rfl,rfl⟩)
 obtain⟨i0,aW,aS,aR,aQ⟩:=info_parts Az;go_wp2_with (at_make;refine wpList_make_own _ rfl _ _ 22 rfl w1.heap.size 3 i0 (.int .i64 0) 1 Tryz.underlying22 aW aS aR .i64 .i64 (D:Int) D rfl rfl rfl (by rw[aQ];omega) ai (ζ _) ?_)
 intro w3 aA aX;obtain⟨V0,aY⟩:∃v,Value.slice (some (w1.heap.size,0)) 0 D=v:=⟨_,rfl⟩;rw[aY]at aA ⊢;have bC:Hia (w3.ownsRow w1.heap.size 3 1 V0 (0*Q) (vs (0*Q) (iv F))):=Aa (by rw[Nat.zero_mul];exact aA);have bA:Hia (Ex w1 w3):=Aa (Below.grown (Ex.refl w1) aX (ζ _) (fun k e=>by cases e));have B1:=Aa b1;replace b0:=bA.o.cell b0;have B0:=Aa b0;clear aA aX aY aW aS aR aQ;go_wp2_with fail
 go_loopw [6,22] (fun v' i' wr=>∃i:Nat,i<=N/\i'= .int .i64 i/\Hia (wr.ownsRow w1.heap.size 3 1 v' (i*Q) (vs (i*Q) (iv F)))/\Hia (Ex w1 wr)) (fun _ i' _=>N-(intOf i').toNat)
 case atStart=>exact⟨0,ac,rfl,bC,bA⟩
 case round=>
  clear bC;obtain⟨i,hi,rfl,aA,aB⟩:=hrel;by_cases hin:i<N
  .obtain⟨pb,po,rfl,aV⟩:=P3.o ac;obtain⟨sb,so,rfl,aU⟩:=S3.o ac;have bO:=bS.o i hin;have cC:=Aa (aF.o.trans aB.o);obtain⟨y,hy⟩:=nA (BJ pl i);have aT:pl.getD i 0=(y:Int):=by rw[<-hy];unfold BJ;omega
   have bL:y<N:=ac;have aK:=bX.o i hin;rw[aT]at aK;have cp:=cC.o.cell (aV i _ aK);obtain⟨s,hs⟩:=nA (sl.getD i 0);have aJ:=bW.o i hin;rw[hs]at aJ;have cD:=Aa (aU i _ aJ);have i1:(0:Int)<=(i:Int):=ac;have i2:(i:Int)<(N:Int):=ac;obtain⟨YQ,aG⟩:∃z,y*Q=z:=⟨_,rfl⟩;have bQ:Hia (YQ+Q<=D):=Aa (by rw[<-aG];exact bK.o y bL);have bP:=Aa (show(y:Int)*((q:Int)-1)=(YQ:Int) from by rw[HQ.o,<-aG,γb]);have bJ:Hia (∀c:Nat,c<Q->F (i*Q+c)=((YQ+Am p m (lw ml) (Av q s) (c+1):Nat):Int)-1):=Aa (fun c hc=>by
    have:=bY.o i c hc;rw[hy,hs,aG]at this;exact this)
   have bI:=Aa (bK.o i hin);have bU:=Aa (fun (w5:World) (h5:Ex w1 w5) (c:Nat) (hc:c<q)=>(by
    have:=bE.o w5 (aF.o.trans h5) s (c:Int);rw[AE hc]at this;exact this:Calls Tryz.prog 106 #[(b,0),s,(c:Int)] w5 (Qt w5 (.int .i64 (Am p m (lw ml) (Av q s) c:Nat)))))
   have bH:=Aa (show(i+1)*Q=i*Q+Q from ζg i Q);obtain⟨IQ,aZ⟩:∃z,i*Q=z:=⟨_,rfl⟩;rw[aZ]at aA bJ bI bH;obtain⟨bD,cA,aE,bV⟩:=Of aA.o aB.o aB.o hin;obtain⟨w8,h8⟩:∃w8,w8=wr:=⟨_,rfl⟩;rw[<-h8]at bD cA aE cp ⊢;have HW8:=Aa h8;clear bO hy aT aK hs aJ aV aU aA aB aG aZ hin h8 k1;go_wp2_with fail
   go_loopw [6,9] (fun v' c' wr=>∃c:Nat,1<=c/\c<=q/\c'= .int .i64 c/\Hia (wr.ownsRow w1.heap.size 3 1 v' (IQ+(c-1)) (vs (IQ+(c-1)) (iv F)))/\Hia (Ex w1 wr)) (fun _ c' _=>q-(intOf c').toNat)
   case atStart=>exact⟨1,ac,ac,rfl,bD,aE⟩
   case round=>
    obtain⟨c,hc1,hcq,rfl,aA,aB⟩:=hrel;by_cases hcn:c<q
    .have cs:=aB.o.cell (aF.o.cell cD.o);have cb:=aB.o.cell B1.o;obtain⟨t,ht⟩:=nA (Am p m (lw ml) (Av q s) c);have htq:t<q:=by rw[<-ht];exact bG.o _ _
     have bZ:Hia (F (IQ+(c-1))=((YQ+t:Nat):Int)-1):=Aa (by
      rw[bJ.o (c-1) (by have:=aN.o;omega),show c-1+1=c from ac,ht])
     have bF:=Aa (fun (w5:World) (h5:Ex wr w5)=>bU.o w5 (aB.o.trans h5) c hcn);rw[ht]at bF;obtain⟨va,vc,rfl⟩:=Ad aA.o;have aD:=Aa aA.o;have aC:=Aa aB.o;have aP:=Aa (show IQ+(c-1)<=64/\IQ+(c-1)+1=IQ+(c+1-1) from⟨by have:=bI.o;have:=aN.o;omega,ac⟩);have k3:=bP.o;have k4:YQ<=64:=by have:=bQ.o;omega
     have k5:(c:Int)<(q:Int):=ac;clear ht aA aB;go_upto_region 9 with fail
     go_wp2_with (first|(go_at_call 106;(with_reducible refine(bF.o _ (Ex.refl _)).mono ?_);rintro e w6⟨rfl,n6,rfl⟩;have aM:=Aa ((Ex.refl wr).drewN n6);have bT:=Aa (Ag aD.o aM.o);generalize wr.drewN n6=w6 at *)|(at_builtin;refine Al _ rfl _ _ 22 rfl w1.heap.size 3 (.int .i64 0) 1 8 Tryz.underlying22 Az rfl ae _ (IQ+(c-1)) _ rfl bT.o [.int .i64 ((YQ:Int)+(t:Int)-1)] 3 _ rfl rfl rfl aj (by have:=aP.o.1;unfold maxLen;omega) (by have:=aP.o.1;omega) (μ aC.o.size aM.o.size) ?_))
     intro v9 w9 aL;have bB:Hia (w9.ownsRow w1.heap.size 3 1 v9 (IQ+(c+1-1)) (vs (IQ+(c+1-1)) (iv F))):=Aa (by
      have:=aL.own;rw[<-aP.o.2,S2];have e:iv F (IQ+(c-1))=Value.int .i64 ((YQ:Int)+(t:Int)-1):=by show Value.int .i64 (F (IQ+(c-1)))=_;rw[bZ.o];push_cast;rfl
      rw[e];exact this)
     have bR:=Aa (aL.ex (aC.o.trans aM.o) (ζ _));obtain⟨v9a,v9c,rfl⟩:=Ad bB.o;clear aL;go_wp2_with fail
     go_roundw
     case rel=>exact⟨c+1,ac,ac,by go_num,bB,bR⟩
     case measure=>exact Ωm
    .obtain rfl:c=q:=by omega
     rw[show IQ+(c-1)=IQ+Q from by have:=aN.o;omega,<-bH.o]at aA;have aD:=Aa aA.o;have aC:=Aa aB.o;clear aA aB;go_wp2_with fail
     go_roundw
     case rel=>exact⟨i+1,ac,by go_num,aD,aC⟩
     case measure=>have:=bV.o;simp[intOf];omega
  .obtain rfl:i=N:=by omega
   rw[cB.o]at aA;have aD:=Aa aA.o;have aC:=Aa (aF.o.trans aB.o);obtain⟨va,vc,rfl⟩:=Ad aD.o;clear aA aB;go_wp2_with fail
   go_ret;exact⟨_,rfl,Cx aD.o aF.o.size,aC.o⟩
end
section
variable (p m:Nat) (ml:List Int)
def KO(x:Int)(u r:Nat->Int)(j:Nat):Int:=if r j=0 then u j else((AK p m (Av (p^m) (u j)) (CL p m (Am p m (lw ml) (Av (p^m) x) (Av (p^m) (r j)))):Nat):Int)
def Gp(x:Int)(u r:Nat->Int)(c j:Nat):Int:=if j<c then KO p m ml x u r j else u j
def Mn(u:Nat->Int)(pl:Nat)(r:Nat->Int):Nat->Int:=if u pl=0 then u else KO p m ml (u pl) u r
def N4(a:Nat->Nat->Int)(pl:Nat->Nat)(v:Nat->Int):Nat->Nat->Int
 | 0=>v
 | k+1=>Mn p m ml (N4 a pl v k) (pl k) (a k)
def Mq(t:Nat)(v:Nat->Int):Int:=CG (fun j=>v j !=0) t
def ivz(z:Nat):Nat:=if z=0 then 0 else Eg p m ml z
structure Mg where
 n:Nat
 a:Nat->Nat->Int
 pl:Nat->Nat
def Mg.red(e:Mg)(v:Nat->Int):Nat->Int:=N4 p m ml e.a e.pl v e.n
def Gl(t:Nat)(e:Mg)(r:Nat->Int):Mg:=
 if 0<=Mq t (e.red p m ml r) then⟨e.n+1,Ay e.a e.n (BT p m ml (ivz p m ml (Av (p^m) (e.red p m ml r (Mq t (e.red p m ml r)).toNat))) (e.red p m ml r)),Ay e.pl e.n (Mq t (e.red p m ml r)).toNat⟩ else e
def Hf(t:Nat)(rows:Nat->Nat->Int):Nat->Mg
 | 0=>⟨0,fun _ _=>0,fun _=>0⟩
 | k+1=>Gl p m ml t (Hf t rows k) (rows k)
def Ja(t:Nat)(e:Mg)(rows:Nat->Nat->Int)(n:Nat):Int:=CG (fun i=>decide (0<=Mq t (e.red p m ml (rows i)))) n
def F7(sc:List Int)(x:Nat->Int)(i:Nat):Int:=((Am p m (lw ml) (Av (p^m) (sc.getD i 0)) (Av (p^m) (x i)):Nat):Int)
def IX(tl:List Int)(y:Nat->Int)(i:Nat):Int:=y (tl.getD i 0).toNat
def E3(l1 l2:List (List Int))(tl sc:List Int):Int × Int:=
 let i:=Ja p m ml tl.length (Hf p m ml tl.length (fun i=>IX tl (An l2 i)) l2.length) (fun i=>F7 p m ml sc (An l1 i)) l1.length
 if 0<=i then(0,i) else
 let k:=Ja p m ml tl.length (Hf p m ml tl.length (fun i=>F7 p m ml sc (An l1 i)) l1.length) (fun i=>IX tl (An l2 i)) l2.length
 if 0<=k then(1,k) else(-1,-1)
end
def S5(i n:Nat):List Int:=il n (Ay (fun _=>0) i 1)
def JS(R1 R2:Nat)(s:Int × Int):List Int:=if s.1=0 then S5 s.2.toNat R1 else if s.1=1 then S5 s.2.toNat R2 else []
theorem Gz{N j:Nat}(h:j<N)(f:Nat->Int):(il N f).getD j 0=f j:=by
 rw[δ,AT h];rfl
theorem OI(pr:Nat->Bool)(n:Nat):CG pr n<n/\-1<=CG pr n:=by
 unfold CG;split
 .rename_i i h;have:=List.mem_range.1 (List.mem_of_find?_eq_some h);omega
 .omega
theorem WZ(t:Nat)(v:Nat->Int):Mq t v<t/\-1<=Mq t v:=OI _ _
section
variable {p m:Nat} {ml:List Int}
theorem Zg{t:Nat}{e:Mg}{r:Nat->Int}(h:∀i,i<e.n->e.pl i<t):∀i,i<(Gl p m ml t e r).n->(Gl p m ml t e r).pl i<t:=by
 have hz:=WZ t (e.red p m ml r);unfold Gl;split
 .intro i hi;simp only at hi ⊢;by_cases e1:i=e.n
  .subst e1;rw[Ab];omega
  .rw[Ac _ _ e1];exact h i ac
 .exact h
theorem Kr(t:Nat)(rows:Nat->Nat->Int):∀k i,i<(Hf p m ml t rows k).n->(Hf p m ml t rows k).pl i<t
 | 0=>fun i hi=>by simp only[Hf]at hi;omega
 | k+1=>Zg (Kr t rows k)
theorem spnS_n{t:Nat}{e:Mg}{r:Nat->Int}:(Gl p m ml t e r).n<=e.n+1:=by
 unfold Gl;split
 .simp
 .omega
theorem spn_n(t:Nat)(rows:Nat->Nat->Int):∀k,(Hf p m ml t rows k).n<=k
 | 0=>by simp[Hf]
 | k+1=>by
  have:=spn_n t rows k;have:=spnS_n (p:=p) (m:=m) (ml:=ml) (t:=t) (e:=Hf p m ml t rows k) (r:=rows k);show(Gl p m ml t _ _).n<=_
  omega
end
structure Nd where
 tl:List Int
 sc:List Int
 side:Int
 msg:List Int
def Gb{σ:Type}(step:σ->List Int->List Int->σ × Int)(tl sc:List Int)(j:Nat):Nat->σ->σ × Int
 | 0,s=>(s,0)
 | c+1,s=>if (Gb step tl sc j c s).2≠0 then Gb step tl sc j c s else step (Gb step tl sc j c s).1 (tl ++ [(j:Int)]) (sc ++ [((c+1:Nat):Int)])
def Ek{σ:Type}(step:σ->List Int->List Int->σ × Int)(q:Nat)(tl sc:List Int):Nat->σ->σ × Int
 | 0,s=>(s,0)
 | j+1,s=>if (Ek step q tl sc j s).2≠0 then Ek step q tl sc j s else if tl.contains (j:Int) then Ek step q tl sc j s else Gb step tl sc j (q-1) (Ek step q tl sc j s).1
def Mj(p m:Nat)(ml:List Int)(l1 l2:List (List Int))(n:Nat):Nat->Nat × List Nd->List Int->List Int->(Nat × List Nd) × Int
 | d,s,tl,sc=>
  if s.1=65536 then(s,8) else
  let w:=E3 p m ml l1 l2 tl sc
  let s1:=(s.1+1,s.2 ++ [⟨tl,sc,w.1,JS l1.length l2.length w⟩])
  if 0<=w.1 then(s1,0) else if tl.length=n then(s1,18) else
  match d with
  | 0=>(s1,0)
  | d+1=>Ek (Mj p m ml l1 l2 n d) (p^m) tl sc n s1
def Fz(f:Nat->Int)(i j:Nat):Int:=if j<i then f j else 0
theorem Nl(f:Nat->Int):Fz f 0=fun _=>0:=by funext j;unfold Fz;rw[if_neg ac]
theorem Nm(f:Nat->Int)(i:Nat):Ay (Fz f i) i (f i)=Fz f (i+1):=by
 funext j;by_cases e:j=i
 .subst e;rw[Ab];unfold Fz;rw[if_pos ac]
 .rw[Ac _ _ e];unfold Fz;by_cases h:j<i
  .exact zbc
  .exact zbd
theorem Qw{f:Nat->Int}{n j:Nat}(h:j<n):Fz f n j=f j:=by unfold Fz;rw[if_pos h]
theorem AQ(w:World)(u v:Value):(w.alloc (.cells #[u,v] 71)).cell? (w.heap.size,0)=some u/\(w.alloc (.cells #[u,v] 71)).cell? (w.heap.size,1)=some v/\Ex w (w.alloc (.cells #[u,v] 71))/\(w.alloc (.cells #[u,v] 71)).heap.size=w.heap.size+1:=
 ⟨ag,ag,(Ex.refl w).alloc _,ag⟩
section
variable {b p m x0:Nat} {ml:List Int}
theorem La(w:World)(hg:Bh w b p m ml x0)(A:Nat)(hA:w.cell? (A,0)=some (.pointer (some (b,0))))(N:Nat)(hN:N<=1000)(tl sl x:List Int)(tv sv xv:Value)(ht:Ak w tv tl)(hs:Ak w sv sl)(hx:Ak w xv x)(aP:tl.length=N)(aJ:sl.length=N)(hxl:N<=x.length):
  Calls Tryz.prog 228 #[(A,0),.agg #[tv,sv],xv] w fun r w'=>∃g,r= .returned (.slice (some ⟨g,0,none⟩) N N)/\AJ w' w.heap.size 3 g N (iv (F7 p m ml sl fun j=>x.getD j 0))/\Ex w w':=by
 obtain⟨b0,b1,eb,aD⟩:=AQ w tv sv;have aZ:=Aa (fun (w1:World) (h1:Ex w w1) (y z:Int)=>EZ w1 (hg.ex h1) y z);obtain⟨ta,tc,rfl,_,t2,_⟩:=ht.open;obtain⟨sa,sc,rfl,_,s2,s3⟩:=hs.open;obtain⟨xa,xc,rfl,_,x2,x3⟩:=hx.open;unfold maxLen at t2 s2 x2;rw[aJ]at s3;rw[aP,aJ]at b0 b1 eb aD ⊢;obtain⟨S3,X3,bC,bB,aB,HA⟩:=Ty s3 x3 (fun i (hi:i<N)=>AZ (l:=sl) (i:=i) ac) (fun i (hi:i<N)=>AZ (l:=x) (i:=i) ac) eb hA;obtain⟨F,hF⟩:∃F,(F7 p m ml sl fun j=>x.getD j 0)=F:=⟨_,rfl⟩;have bD:=Aa (fun i=>congrFun hF i);rw[hF];clear hg ht hs hx s3 x3 eb aP aJ hA hF;go_enter Tryz.func228,Tryz.ntmps228
 go_wp2_with (at_make;refine Ar _ rfl _ _ 22 rfl 3 (.int .i64 0) 8 Tryz.underlying22 Az rfl _ N rfl rfl rfl ac ai ?_)
 obtain⟨B,hB⟩:=nA w.heap.size;rw[hB]at b0 b1 aD
 try simp only[hB]
 have bF:=Aa hB;clear hB;generalize w.alloc (.cells #[(ta,N,tc),(sa,N,sc)] 71)=w1 at *;intro w3 aA aI;have B0:=Aa b0;have B1:=Aa b1;obtain⟨g,aE⟩:=nA (B+1);have aR:Hia (AJ w3 g 3 g N (iv (Fz F 0))):=Aa (by rw[<-aE,Nl];exact aA)
 try simp only[aE]
 have aW:=Aa aI;have aT:Hia (w1.heap.size=g):=Aa (by rw[<-aE,<-aD]);have aV:=aI.cell b1;clear aA aI b0 b1 aE aD;go_wp2_with fail
 go_loopw [17] (fun i' wr=>∃(i:Nat),i<=N/\i'= .int .i64 i/\Hia (AJ wr g 3 g N (iv (Fz F i)))/\Hia (Ex w1 wr)) (fun i' _=>N-(intOf i').toNat)
 case atStart=>exact⟨0,ac,rfl,aR,aW⟩
 case round=>
  clear aR aV;obtain⟨i,hi,rfl,aA,aF⟩:=hrel;by_cases hin:i<N
  .obtain⟨sb,so,rfl,aQ⟩:=S3.o ac;obtain⟨xb,xo,rfl,aO⟩:=X3.o ac;have aH:=Aa (aB.o.trans aF.o);obtain⟨s,hs⟩:=nA (sl.getD i 0);have aL:=bC.o i hin;rw[hs]at aL;have cs:=aH.o.cell (aQ i _ aL);obtain⟨z,hz⟩:=nA (x.getD i 0);have aK:=bB.o i hin;rw[hz]at aK;have aU:=Aa (aO i _ aK);have i1:(0:Int)<=(i:Int):=by omega
   have i2:(i:Int)<(N:Int):=ac;have i3:(i:Int)<(x.length:Int):=ac;have aS:=Aa (fun (w5:World) (h5:Ex wr w5)=>aZ.o w5 (aH.o.trans h5) s z);obtain⟨u,hu⟩:=nA (Am p m (lw ml) (Av (p^m) s) (Av (p^m) z));rw[hu]at aS;have aX:Hia (Ay (Fz F i) i (u:Int)=Fz F (i+1)):=Aa (by
    rw[<-Nm,<-bD.o i];show _=Ay (Fz F i) i ((Am p m (lw ml) (Av (p^m) (sl.getD i 0)) (Av (p^m) (x.getD i 0)):Nat):Int)
    rw[hs,hz,hu])
   have aG:=Aa aA.o;have bE:=Aa aF.o;have aM:=Aa (fun (w5:World) (h5:Ex wr w5)=>(aG.o.ex h5).exSet (a:=w1) (δw aT.o) (bE.o.trans h5) i (.int .i64 (u:Int)));have aY:=Aa (fun (w5:World) (h5:Ex wr w5)=>show AJ (w5.setCell (g,i) (.int .i64 (u:Int))) g 3 g N (iv (Fz F (i+1))) from by
    rw[<-aX.o,<-CF];exact(aG.o.ex h5).set i _)
   have bA:=Aa hin;have aC:=Aa (fun (w5:World) (h5:Ex wr w5)=>(⟨(aH.o.trans h5).cell HA.o,(aH.o.trans h5).cell aU.o⟩:w5.cell? (A,0)=some (.pointer (some (b,0)))/\w5.cell? (xb,xo+i)=some (.int .i64 z)));have aN:=Aa (fun (w5:World) (h5:Ex wr w5)=>(⟨(aB.o.trans (aM.o w5 h5)).cell HA.o,(aB.o.trans (aM.o w5 h5)).cell aU.o⟩:(w5.setCell (g,i) (.int .i64 (u:Int))).cell? (A,0)=some (.pointer (some (b,0)))/\(w5.setCell (g,i) (.int .i64 (u:Int))).cell? (xb,xo+i)=some (.int .i64 z)));clear hs aL hz aK hu aQ aO aA aF;go_wp2_with fail
   have G0:Ex wr wr.drew:=(Ex.refl wr).drew
   go_region_held3 (fun w'=>w'.cell? (A,0)=some (.pointer (some (b,0)))/\w'.cell? (xb,xo+i)=some (.int .i64 z))
    (first|with_reducible exact aC.o _ G0|with_reducible exact aC.o _ X6|with_reducible exact aN.o _ X6)
    (first|(go_at_call 106;(with_reducible refine(aS.o _ G0).mono ?_);rintro e w6⟨rfl,n6,rfl⟩;have X6:Ex wr (wr.drewN (1+n6)):=(Ex.refl wr).drewN (1+n6);have co6:=(aG.o.ex X6).cell bA.o;have cf6:=(aG.o.ex X6).frz i))
   go_wp2_with fail
   go_roundw
   case rel=>exact⟨i+1,ac,by go_num,Aa (aY.o _ X6),Aa (aM.o _ X6)⟩
   case measure=>exact Ωm
  .obtain rfl:i=N:=by omega
   go_wp2_with fail
   go_ret;exact⟨g,rfl,(aA.o.mono (by have:=aT.o;have:=bF.o;have:=aB.o.size;omega)).icongr fun j hj=>Qw hj,aB.o.trans aF.o⟩
end
theorem KE(w:World)(A:Nat)(N:Nat)(hN:N<=1000)(tl y:List Int)(tv sv yv:Value)(ht:Ak w tv tl)(hy:Ak w yv y)(aF:tl.length=N)(hr:BW tl y.length=true):
  Calls Tryz.prog 227 #[(A,0),.agg #[tv,sv],yv] w fun r w'=>∃g,r= .returned (.slice (some ⟨g,0,none⟩) N N)/\AJ w' w.heap.size 3 g N (iv (IX tl fun j=>y.getD j 0))/\Ex w w':=by
 obtain⟨b0,b1,eb,aB⟩:=AQ w tv sv;obtain⟨ta,tc,rfl,_,t2,t3⟩:=ht.open;obtain⟨ya,yc,rfl,_,y2,y3⟩:=hy.open;unfold maxLen at t2 y2;rw[aF]at t3;rw[aF]at b0 b1 eb aB ⊢;obtain⟨T3,Y3,aV,aY,aX,aI⟩:=Ty t3 y3 (fun i (hi:i<N)=>EV hr (i:=i) ac) (fun i (hi:i<N)=>AZ (l:=tl) (i:=i) ac) (fun i (hi:i<y.length)=>AZ (l:=y) (i:=i) hi) eb;obtain⟨F,hF⟩:∃F,(IX tl fun j=>y.getD j 0)=F:=⟨_,rfl⟩;have aZ:=Aa (fun i=>congrFun hF i);rw[hF];clear ht hy t3 y3 eb aF hF hr;go_enter Tryz.func227,Tryz.ntmps227
 go_wp2_with (at_make;refine Ar _ rfl _ _ 22 rfl 3 (.int .i64 0) 8 Tryz.underlying22 Az rfl _ N rfl rfl rfl ac ai ?_)
 obtain⟨B,hB⟩:=nA w.heap.size;rw[hB]at b0 b1 aB
 try simp only[hB]
 have bA:=Aa hB;clear hB;generalize w.alloc (.cells #[(ta,N,tc),sv] 71)=w1 at *;intro w3 aA aE;have B0:=Aa b0;obtain⟨g,aC⟩:=nA (B+1);have aM:Hia (AJ w3 g 3 g N (iv (Fz F 0))):=Aa (by rw[<-aC,Nl];exact aA)
 try simp only[aC]
 have aT:=Aa aE;have aN:Hia (w1.heap.size=g):=Aa (by rw[<-aC,<-aB]);have aR:=aE.cell b0;clear aA aE b0 b1 aC aB;go_wp2_with fail
 go_loopw [17] (fun i' wr=>∃(i:Nat),i<=N/\i'= .int .i64 i/\Hia (AJ wr g 3 g N (iv (Fz F i)))/\Hia (Ex w1 wr)) (fun i' _=>N-(intOf i').toNat)
 case atStart=>exact⟨0,ac,rfl,aM,aT⟩
 case round=>
  clear aM aR;obtain⟨i,hi,rfl,aA,aD⟩:=hrel;by_cases hin:i<N
  .obtain⟨tb,to_,rfl,aK⟩:=T3.o ac;have aO:=Aa (aI.o.trans aD.o);have aP:=aV.o i hin;obtain⟨k,hk⟩:=nA ((tl.getD i 0).toNat);have aL:tl.getD i 0=(k:Int):=by omega
   have aQ:k<y.length:=ac;obtain⟨yb,yo,rfl,aJ⟩:=Y3.o ac;have aH:=aY.o i hin;rw[aL]at aH;have ct:=aO.o.cell (aK i _ aH);obtain⟨z,hz⟩:=nA (y.getD k 0);have aG:=aX.o k aQ;rw[hz]at aG;have cy:=aO.o.cell (aJ k _ aG);have i1:(0:Int)<=(i:Int):=bz;have i2:(i:Int)<(N:Int):=ac;have i3:(0:Int)<=(k:Int):=ac;have i4:(k:Int)<(y.length:Int):=ac;have aU:Hia (Ay (Fz F i) i z=Fz F (i+1)):=Aa (by
    rw[<-Nm,<-aZ.o i];show _=Ay (Fz F i) i (y.getD (tl.getD i 0).toNat 0)
    rw[hk,hz])
   have co:=aA.o.cell hin;have cf:=aA.o.frz i;have aS:=Aa (aA.o.exSet (a:=w1) (δw aN.o) aD.o i (.int .i64 z));have aW:Hia (AJ (wr.setCell (g,i) (.int .i64 z)) g 3 g N (iv (Fz F (i+1)))):=Aa (by
    rw[<-aU.o,<-CF];exact aA.o.set i _)
   clear aP hk aL aH hz aG aK aJ aA aD;go_wp2_with fail
   go_roundw
   case rel=>exact⟨i+1,ac,by go_num,aW,aS⟩
   case measure=>exact Ωm
  .obtain rfl:i=N:=by omega
   go_wp2_with fail
   go_ret;exact⟨g,rfl,(aA.o.mono (by have:=aN.o;have:=bA.o;have:=aI.o.size;omega)).icongr fun j hj=>Qw hj,aI.o.trans aD.o⟩
theorem chk_can{p m:Int}{ml:List Int}{aA:Int}{rows:List (List Int)}{e:Int}(h:Me p m ml aA rows e):Dx p m ml aA rows=e:=by
 unfold Dx;rcases h with⟨pn,mn,rfl,rfl,h3,h4⟩|⟨h1,h2⟩
 .rw[if_neg (fun h=>h ((BU _ _ _).2 h3)),h4];rfl
 .rw[if_pos (fun h=>h1 ((BU _ _ _).1 h)),h2]
theorem JF{N:Nat}{rows:List (List Int)}(h:∀r∈rows,r.length=N):Au N rows.length (An rows)=rows:=by
 apply List.ext_getElem?;intro i;by_cases hi:i<rows.length
 .rw[CR hi,γ hi,Wl (γ hi) (h _ (Ϙ hi))]
 .rw[ϛ (by rw[AI];omega),ϛ ac]
theorem UK{p m N:Nat}{rows:List (List Int)}(h:∀r∈rows,r.length=N/\Ct (p^m) r=0):Ra p m rows.length N (An rows):=fun i hi j hj=>by
 have aA:rows[i]?=some rows[i]:=γ hi;obtain⟨h1,h2⟩:=h _ (Ϙ hi);have e:An rows i j=rows[i].getD j 0:=by unfold An;rw[δ (l:=rows),aA];rfl
 rw[e];exact zb0
theorem zbx{P:Prop}(h:P:=by
 clear hLR aF;go_wp2_with (go_at_call 27;refine aJ.o.mono ?_;rintro e w4⟨rfl,n3,aM⟩;subst aM)
 have aQ:=Aa (aR.o.drewN n3);go_wp2_with fail
 go_ret;exact⟨⟨_,rfl,aD.o⟩,aQ.o⟩):P:=h
theorem RC(p m:Int)(ml:List Int)(mv:Value)(w:World)(aG:Ak w mv ml)(aA:Int)(rows:List (List Int))(v:Value)(hv:B6 w v rows):
  Calls Tryz.prog 88 #[.agg #[p,m,mv],.agg #[aA,v]] w fun r w'=>(∃e:Int,r= .returned (.int .i64 e)/\Mu p m ml aA rows e)/\Ex w w':=by
 obtain⟨g0,g1,g2,e0,aP⟩:=AA w p m mv;have aV:=Aa (fun (w':World) (h:Ex w w')=>UV p m ml mv w' (aG.ex h) aA rows v (hv.ex h));have aZ:=Aa aG;have HV:=Aa hv;obtain⟨za,zc,rfl,z1,z2,z3⟩:=hv.open;clear z1 z3;unfold maxLen at z2;obtain⟨ma,mc,rfl,-,m2,-⟩:=aG.open;unfold maxLen at m2;obtain⟨xb,aY⟩:=nA w.heap.size;rw[aY]at g0 g1 g2 aP;clear aG hv;go_enter Tryz.func88,Tryz.ntmps88
 go_wp2_with fail
 generalize w.alloc (.cells #[p,m,(ma,ml.length,mc)] 24)=wA at *;obtain⟨a0,a1,ea⟩:=Du wA aA (.slice za rows.length zc);rw[aP]at a0 a1;generalize wA.alloc (.cells #[aA,.slice za rows.length zc] 137)=wB at *;obtain⟨A0,A1,G0,G1,G2,HE⟩:=Ty a0 a1 (ea.cell g0) (ea.cell g1) (ea.cell g2) (e0.trans ea);clear g0 g1 g2 a0 a1 e0 ea aP;refine(aV.o wB HE.o).mono ?_;rintro e w2⟨e,rfl,hc,aC⟩;obtain⟨aI,A0,A1,G0,G1,G2⟩:=Ty (HE.o.trans aC) (aC.cell A0.o) (aC.cell A1.o) (aC.cell G0.o) (aC.cell G1.o) (aC.cell G2.o);clear aC HE aV;have aE:=chk_can hc;by_cases he:e=0
 .subst he;rcases hc with⟨pn,mn,rfl,rfl,hfb,hmk⟩|⟨_,h⟩
  .obtain⟨s1,s2,s3,s4⟩:=ED hmk.symm;obtain⟨N,rfl⟩:∃N:Nat,aA=N:=⟨aA.toNat,ac⟩;have aB:∀r∈rows,r.length=N/\Ct (pn^mn) r=0:=fun r hr=>by obtain⟨h1,h2⟩:=s4 r hr;exact⟨ac,h2⟩
   have aN:Gg pn mn ml/\Hc pn mn (lw ml):=by
    obtain⟨aW,aX,e1,e2,h3,h4,h5⟩:=hfb;obtain rfl:aW=pn:=ac;obtain rfl:aX=mn:=ac;exact⟨h3,h5⟩
   have aU:=Aa (RD (mv:= .slice ma ml.length mc) w2 aN.1 aN.2 (aZ.o.ex aI.o) N rows.length ac s3 (An rows) (UK aB) _ (by rw[JF fun r hr=>(aB r hr).1];exact HV.o.ex aI.o));have aK:=Aa (fun piv a' e (aH:Ia pn mn ml N rows.length (An rows) a' piv) (h:e=if Au N piv.length a'=rows then 0 else 5)=>show Mu pn mn ml N rows e from .inr ⟨aE,pn,mn,N,piv,a',rfl,rfl,rfl,hfb,hmk.symm,aH,h⟩);have c0:=A0.o;have c1:=A1.o;have c2:=G0.o;have c3:=G1.o;have c4:=G2.o;clear aE hfb hmk s1 s2 s3 s4 aB aN;go_wp2_with fail
   refine aU.o.mono ?_;rintro e w3⟨piv,pv,rv,a',rfl,aH,aO,aT,aL⟩;have aR:=Aa (aI.o.trans aL);have c1:=aL.cell A1.o;obtain⟨L,hL⟩:=nA (Au N piv.length a');have aJ:=Aa (DI w3 L rows _ _ (by rw[<-hL];exact aO) (HV.o.ex aR.o));have aF:=Aa (fun e=>aK.o piv a' e aH);rw[hL]at aF;obtain⟨ra,rc,aS,-,r2,-⟩:=aO.open;rw[hL]at aS;subst aS;obtain⟨pa,pc,rfl,-,p2,-⟩:=aT.open;clear aH aO aT aL hL r2 p2 aU aK;by_cases hLR:L=rows
   .rw[decide_eq_true hLR]at aJ;have aD:=Aa (aF.o 0 (by rw[if_pos hLR]));exact zbx
   .rw[decide_eq_false hLR]at aJ;have aD:=Aa (aF.o 5 (by rw[if_neg hLR]));exact zbx
  .exact absurd h ae
 .have kb:(e !=0)=true:=by simpa using he
  have aK:Hia (Mu p m ml aA rows e):=Aa (.inl ⟨by rw[aE];exact he,aE.symm⟩);clear hc aE;go_wp2_with fail
  go_ret;exact⟨⟨_,rfl,aK.o⟩,aI.o⟩
theorem Qo:(Tryz.prog.info? 129).map (fun i=>(i.zero,i.size,i.bytes))=some (some (.agg #[Ω,Ω,Ω,(),()]),5,72):=ah
structure Cd where
 i:Nat
 j:Nat
 a:Nat
def Ll(k:Nat):List Int:=(ξ k).map fun (x:Nat)=>(x:Int)
theorem Xt(k:Nat):Ll (k+1)=Ll k ++ [(k:Int)]:=by unfold Ll;rw[γg,δe];rfl
theorem FQ(k:Nat):(Ll k).length=k:=by unfold Ll;simp
def Mf(k:Nat):List Int:=List.replicate k 1
theorem WK(k:Nat):Mf (k+1)=Mf k ++ [(1:Int)]:=by unfold Mf;rw[List.replicate_succ']
theorem FJ(k:Nat):(Mf k).length=k:=by unfold Mf;simp
def Cd.tl(g:Cd):List Int:=Ll g.i ++ [(g.j:Int)]
def Cd.sl(g:Cd):List Int:=Mf g.i ++ [(g.a:Int)]
def Fy:List Cd->List (Value × Value)->List Value
 | g :: gs,c :: cs=> .int .i64 g.i :: .int .i64 g.j :: .int .i64 g.a :: c.1 :: c.2 :: Fy gs cs
 | _,_=> []
theorem Qq:∀(L:List Cd) (os:List (Value × Value)) (i:Nat) (l:Cd) (o:Value × Value),L[i]?=some l->os[i]?=some o->(Fy L os)[5*i]?=some (.int .i64 l.i)/\(Fy L os)[5*i+1]?=some (.int .i64 l.j)/\(Fy L os)[5*i+2]?=some (.int .i64 l.a)/\(Fy L os)[5*i+3]?=some o.1/\(Fy L os)[5*i+4]?=some o.2
 | l' :: L,o' :: os,0,l,o,h,k=>by
  simp at h k;subst h k;exact⟨rfl,rfl,rfl,rfl,rfl⟩
 | l' :: L,o' :: os,i+1,l,o,h,k=>by
  have:=Qq L os i l o ay (by simpa using k);rw[show 5*(i+1)=5*i+5 by omega,show 5*i+5+1=5*i+1+5 by omega,show 5*i+5+2=5*i+2+5 by omega,show 5*i+5+3=5*i+3+5 by omega,show 5*i+5+4=5*i+4+5 by omega];simpa[Fy]using this
 | [],os,i,l,o,h,k=>by simp at h
 | l' :: L, [],i,l,o,h,k=>by simp at k
theorem Lp:∀(L:List Cd) (os:List (Value × Value)) (l:Cd) (o:Value × Value),os.length=L.length->Fy (L ++ [l]) (os ++ [o])=Fy L os ++ [.int .i64 l.i,.int .i64 l.j,.int .i64 l.a,o.1,o.2]
 | [], [],l,o,_=>rfl
 | l' :: L,o' :: os,l,o,h=>by
  have:=Lp L os l o ay;simp only[List.cons_append,Fy,this]
 | [],o' :: os,l,o,h=>by simp at h
 | l' :: L, [],l,o,h=>by simp at h
def YK(b0:Nat)(w:World)(v:Value)(gs:List Cd):Prop:=∃cs:List (Value × Value),cs.length=gs.length/\Sl w v gs.length 5 (Fy gs cs)/\∀(i:Nat) (g:Cd) (c:Value × Value),gs[i]?=some g->cs[i]?=some c->(Ak w c.1 g.tl/\Ak w c.2 g.sl)/\(∀X,c.1.ownBlock=some X->b0<=X)/\∀X,c.2.ownBlock=some X->b0<=X
theorem YK.mono{b0 b1:Nat}{w:World}{v:Value}{L:List Cd}(h:YK b0 w v L)(hb:b1<=b0):YK b1 w v L:=by
 obtain⟨os,h1,h2,h3⟩:=h;exact⟨os,h1,h2,fun i l o a b=>⟨(h3 i l o a b).1,fun X e=>μ hb ((h3 i l o a b).2.1 X e),fun X e=>μ hb ((h3 i l o a b).2.2 X e)⟩⟩
theorem YK.open{b0:Nat}{w:World}{v:Value}{L:List Cd}(h:YK b0 w v L):∃a cap,v= .slice a L.length cap/\L.length<=cap/\cap<=maxLen/\
  (0<L.length->∃b o,a=some ⟨b,o,none⟩/\∀(i:Nat) (l:Cd),L[i]?=some l->∃u r,w.cell? ⟨b,o+5*i,none⟩=some (.int .i64 l.i)/\w.cell? ⟨b,o+(5*i+1),none⟩=some (.int .i64 l.j)/\w.cell? ⟨b,o+(5*i+2),none⟩=some (.int .i64 l.a)/\w.cell? ⟨b,o+(5*i+3),none⟩=some u/\w.cell? ⟨b,o+(5*i+4),none⟩=some r/\Ak w u l.tl/\Ak w r l.sl/\(∀X,u.ownBlock=some X->b0<=X)/\∀X,r.ownBlock=some X->b0<=X):=by
 obtain⟨os,h1,⟨h2,a,cap,h3,h4,h5,h6⟩,h7⟩:=h;refine⟨a,cap,h3,h4,h5,fun hn=>?_⟩;obtain⟨b,o,h8,h9⟩:=h6 hn;refine⟨b,o,h8,fun i l hl=>?_⟩;have hi:=(List.getElem?_eq_some_iff.1 hl).1;have ho:os[i]?=some (os[i]'ac):=γ _;obtain⟨g1,g2,g3,g4,g5⟩:=Qq L os i l _ hl ho;obtain⟨⟨k1,k2⟩,k3,k4⟩:=h7 i l _ hl ho;exact⟨_,_,h9 _ _ g1,h9 _ _ g2,h9 _ _ g3,h9 _ _ g4,h9 _ _ g5,k1,k2,k3,k4⟩
structure ND(w1 wr:World)(B i j a:Nat)(pv sv:Value)(L0 L1:List Int):Prop where
 c0:wr.cell? (B,0)=some (.int .i64 i)
 c1:wr.cell? (B,1)=some (.int .i64 j)
 c2:wr.cell? (B,2)=some (.int .i64 a)
 b0:wr.cell? (B,3)=some pv
 b1:wr.cell? (B,4)=some sv
 f0:wr.frozen? (B,3)=false
 f1:wr.frozen? (B,4)=false
 o0:wr.ownsRow w1.heap.size 3 1 pv L0.length (Aj L0)
 o1:wr.ownsRow w1.heap.size 3 1 sv L1.length (Aj L1)
 ap:AD pv sv
 n0:∀X,pv.ownBlock=some X->X≠B
 n1:∀X,sv.ownBlock=some X->X≠B
 lb:w1.heap.size<=B
 ex:Ex w1 wr
section
variable {w1 wr w':World} {B i j a:Nat} {pv sv v':Value} {L0 L1:List Int} {x:Int}
theorem ND.no0(h:ND w1 wr B i j a pv sv L0 L1):some B≠pv.ownBlock:=fun e=>h.n0 B e.symm rfl
theorem ND.no1(h:ND w1 wr B i j a pv sv L0 L1):some B≠sv.ownBlock:=fun e=>h.n1 B e.symm rfl
theorem ND.at0(h:ND w1 wr B i j a pv sv L0 L1)(ha:Bz wr w' w1.heap.size 3 1 pv v' L0.length (Aj L0) [.int .i64 x]):
  w'.cell? (B,3)=some pv/\w'.frozen? (B,3)=false:=⟨ha.cell h.b0 h.no0,ha.frz h.b0 h.f0 h.no0⟩
theorem ND.at1(h:ND w1 wr B i j a pv sv L0 L1)(ha:Bz wr w' w1.heap.size 3 1 sv v' L1.length (Aj L1) [.int .i64 x]):
  w'.cell? (B,4)=some sv/\w'.frozen? (B,4)=false:=⟨ha.cell h.b1 h.no1,ha.frz h.b1 h.f1 h.no1⟩
theorem ND.app0(h:ND w1 wr B i j a pv sv L0 L1)(ha:Bz wr w' w1.heap.size 3 1 pv v' L0.length (Aj L0) [.int .i64 x]):
  ND w1 (w'.setCell (B,3) v') B i j a v' sv (L0 ++ [x]) L1:=by
 have hn:=Hm.blk ha h.c0 h.n0;have hr:=ha.row h.o1 h.ap.symm;refine⟨?_,?_,?_,φ _ _ _ (ha.cell h.b0 h.no0),?_,?_,?_,?_,?_,hr.2.symm,hn,h.n1,h.lb,(ha.ex h.ex (ζ _)).setCell (p:=⟨B,3,none⟩) h.lb _⟩
 .rw[Af ae];exact ha.cell h.c0 h.no0
 .rw[Af ae];exact ha.cell h.c1 h.no0
 .rw[Af ae];exact ha.cell h.c2 h.no0
 .rw[Af ae];exact ha.cell h.b1 h.no0
 .rw[AC];exact ha.frz h.b0 h.f0 h.no0
 .rw[AC];exact ha.frz h.b1 h.f1 h.no0
 .have:=Ae (a:=⟨B,3,none⟩) ha.own (fun e=>hn B e rfl) v';exact zb8
 .exact Ae (a:=⟨B,3,none⟩) hr.1 (fun e=>h.n1 B e rfl) v'
theorem ND.app1(h:ND w1 wr B i j a pv sv L0 L1)(ha:Bz wr w' w1.heap.size 3 1 sv v' L1.length (Aj L1) [.int .i64 x]):
  ND w1 (w'.setCell (B,4) v') B i j a pv v' L0 (L1 ++ [x]):=by
 have hn:=Hm.blk ha h.c0 h.n1;have hr:=ha.row h.o0 h.ap;refine⟨?_,?_,?_,?_,φ _ _ _ (ha.cell h.b1 h.no1),?_,?_,?_,?_,hr.2,h.n0,hn,h.lb,(ha.ex h.ex (ζ _)).setCell (p:=⟨B,4,none⟩) h.lb _⟩
 .rw[Af ae];exact ha.cell h.c0 h.no1
 .rw[Af ae];exact ha.cell h.c1 h.no1
 .rw[Af ae];exact ha.cell h.c2 h.no1
 .rw[Af ae];exact ha.cell h.b0 h.no1
 .rw[AC];exact ha.frz h.b0 h.f0 h.no1
 .rw[AC];exact ha.frz h.b1 h.f1 h.no1
 .exact Ae (a:=⟨B,4,none⟩) hr.1 (fun e=>h.n0 B e rfl) v'
 .have:=Ae (a:=⟨B,4,none⟩) ha.own (fun e=>hn B e rfl) v';exact zb9
end
theorem ND.new(w1:World)(i j a:Nat):ND w1 (w1.alloc (.cells #[i,j,a,(),()] 129)) w1.heap.size i j a (.slice none 0 0) (.slice none 0 0) [] []:=
 ⟨ag,ag,ag,ag,ag,ag,ag,ϋ _ _ _ _,ϋ _ _ _ _,AD.nil _,by simp[Value.ownBlock],by simp[Value.ownBlock],ζ _,(Ex.refl _).alloc _⟩
structure Pl(w1 wr:World)(v:Value)(gs:List Cd)(cs:List (Value × Value)):Prop where
 ex:Ex w1 wr
 len:cs.length=gs.length
 own:wr.ownsRow w1.heap.size 129 5 v gs.length (Fy gs cs)
 at_:∀(i:Nat) (g:Cd) (c:Value × Value),gs[i]?=some g->cs[i]?=some c->(wr.ownsRow w1.heap.size 3 1 c.1 g.tl.length (Aj g.tl)/\AD c.1 v)/\(wr.ownsRow w1.heap.size 3 1 c.2 g.sl.length (Aj g.sl)/\AD c.2 v)
section
variable {w1 wr w' w0:World} {v v' pv sv:Value} {gs:List Cd} {cs:List (Value × Value)} {B:Nat}
theorem Pl.nil(h:Ex w1 wr):Pl w1 wr (.slice none 0 0) [] []:=⟨h,rfl,ϋ _ _ _ _,fun i x c h=>by simp at h⟩
theorem Pl.later(h:Pl w1 wr v gs cs)(hx:Ex wr w'):Pl w1 w' v gs cs:=
 ⟨h.ex.trans hx,h.len,Ag h.own hx,fun i x c a b=>⟨⟨Ag (h.at_ i x c a b).1.1 hx,(h.at_ i x c a b).1.2⟩,⟨Ag (h.at_ i x c a b).2.1 hx,(h.at_ i x c a b).2.2⟩⟩⟩
theorem Pl.gsl(h:Pl w1 wr v gs cs):YK w1.heap.size wr v gs:=⟨cs,h.len,Sl.own h.own,fun i x c a b=>⟨⟨Sl.own (h.at_ i x c a b).1.1,Sl.own (h.at_ i x c a b).2.1⟩,fun X e=>((h.at_ i x c a b).1.1.lt X e).1,fun X e=>((h.at_ i x c a b).2.1.lt X e).1⟩⟩
theorem zc8{P:Prop}(h:P:=by
 have:=(List.getElem?_eq_some_iff.1 a).1;simp at this;omega):P:=h
theorem ba{P:Prop}(h:P:=by rw[h.len];exact hi):P:=h
theorem dn{P:Prop}(h:P:=by rw[h.len];exact Nat.le_refl _):P:=h
theorem Pl.app(h:Pl w1 wr v gs cs){g:Cd}(hx:ND w0 wr B g.i g.j g.a pv sv g.tl g.sl)(h0:∀X,v.ownBlock=some X->X<w0.heap.size)(hw:w1.heap.size<=w0.heap.size)
  (ha:Bz wr w' w1.heap.size 129 5 v v' gs.length (Fy gs cs) [.int .i64 g.i,.int .i64 g.j,.int .i64 g.a,pv,sv]):Pl w1 w' v' (gs ++ [g]) (cs ++ [(pv,sv)]):=by
 refine⟨ha.ex h.ex (ζ _),by simp[h.len],?_,fun i x c a b=>?_⟩
 .have:=ha.own;rw[Lp gs cs g (pv,sv) h.len,ν];exact this
 .by_cases hi:i<gs.length
  .rw[ο hi]at a;rw[ο ba]at b;obtain⟨⟨p1,p2⟩,⟨p3,p4⟩⟩:=h.at_ i x c a b;exact⟨ha.row p1 p2,ha.row p3 p4⟩
  .have aA:i=gs.length:=by
    exact zc8
   subst aA;rw[τ (ζ _)]at a;rw[τ dn,h.len]at b;simp at a b;subst a b;exact⟨ha.row (Cx hx.o0 hw) (BO (fun X e=>(hx.o0.lt X e).1) h0),ha.row (Cx hx.o1 hw) (BO (fun X e=>(hx.o1.lt X e).1) h0)⟩
end
def gA(i j c:Nat):List Cd:=(ξ c).map fun a=>⟨i,j,a+1⟩
def gJ(q i k:Nat):List Cd:=(ξ k).flatMap fun j=>gA i (i+j) (q-1)
def gI(n q k:Nat):List Cd:=(ξ k).flatMap fun i=>gJ q i (n-i)
def Dw(n q:Nat):List Cd:=gI n q n
theorem gA_succ(i j c:Nat):gA i j (c+1)=gA i j c ++ [⟨i,j,c+1⟩]:=by unfold gA;rw[γg,δe];rfl
theorem OF(q i k:Nat):gJ q i (k+1)=gJ q i k++gA i (i+k) (q-1):=by unfold gJ;rw[γg,δf];simp
theorem OG(n q k:Nat):gI n q (k+1)=gI n q k++gJ q k (n-k):=by unfold gI;rw[γg,δf];simp
theorem Si(i j c:Nat):(gA i j c).length=c:=by unfold gA;simp
theorem Sh(q i:Nat)(hq:q<=256):∀k,(gJ q i k).length<=k*256
 | 0=>by unfold gJ;simp
 | k+1=>by
  rw[OF,ν,Si];have:=Sh q i hq k;omega
theorem OH(n q:Nat)(hn:n<=64)(hq:q<=256):∀k,(gI n q k).length<=k*16384
 | 0=>by unfold gI;simp
 | k+1=>by
  rw[OG,ν];have:=OH n q hn hq k;have:=Sh q k hq (n-k);omega
end Go.Proofs.YtehieobniamagaaGreat
