/- Plain: what equivalence's search computes. -/
import Derived.Test.YtehieobniamagaaGreatZa15
namespace Go.Proofs.YtehieobniamagaaGreat
open Go.RowKit
set_option linter.all false
set_option maxRecDepth 100000
set_option maxHeartbeats 4000000
section
variable (p m:Nat) (ml:List Int)
def OY(x:Int)(u r:Nat->Int)(j:Nat):Int:=if r j=0 then u j else((A5 p m (Az (p^m) (u j)) (Dy p m (Ap p m (lw ml) (Az (p^m) x) (Az (p^m) (r j)))):Nat):Int)
def Fh(x:Int)(u r:Nat->Int)(c j:Nat):Int:=if j<c then OY p m ml x u r j else u j
def Xi(u:Nat->Int)(pl:Nat)(r:Nat->Int):Nat->Int:=if u pl=0 then u else OY p m ml (u pl) u r
def Vm(a:Nat->Nat->Int)(pl:Nat->Nat)(v:Nat->Int):Nat->Nat->Int
 | 0=>v
 | k+1=>Xi p m ml (Vm a pl v k) (pl k) (a k)
def RF(t:Nat)(v:Nat->Int):Int:=CD (fun j=>v j !=0) t
def Ze(z:Nat):Nat:=if z=0 then 0 else Jz p m ml z
structure MW where
 n:Nat
 a:Nat->Nat->Int
 pl:Nat->Nat
def MW.red(e:MW)(v:Nat->Int):Nat->Int:=Vm p m ml e.a e.pl v e.n
def Gc(t:Nat)(e:MW)(r:Nat->Int):MW:=
 if 0<=RF t (e.red p m ml r) then⟨e.n+1,Ax e.a e.n (CI p m ml (Ze p m ml (Az (p^m) (e.red p m ml r (RF t (e.red p m ml r)).toNat))) (e.red p m ml r)),Ax e.pl e.n (RF t (e.red p m ml r)).toNat⟩ else e
def G6(t:Nat)(rows:Nat->Nat->Int):Nat->MW
 | 0=>⟨0,fun _ _=>0,fun _=>0⟩
 | k+1=>Gc p m ml t (G6 t rows k) (rows k)
def L8(t:Nat)(e:MW)(rows:Nat->Nat->Int)(n:Nat):Int:=CD (fun i=>decide (0<=RF t (e.red p m ml (rows i)))) n
def Ph(sc:List Int)(x:Nat->Int)(i:Nat):Int:=((Ap p m (lw ml) (Az (p^m) (sc.getD i 0)) (Az (p^m) (x i)):Nat):Int)
def OT(tl:List Int)(y:Nat->Int)(i:Nat):Int:=y (tl.getD i 0).toNat
def FT(l1 l2:List (List Int))(tl sc:List Int):Int × Int:=
 let i:=L8 p m ml tl.length (G6 p m ml tl.length (fun i=>OT tl (AQ l2 i)) l2.length) (fun i=>Ph p m ml sc (AQ l1 i)) l1.length
 if 0<=i then(0,i) else
 let k:=L8 p m ml tl.length (G6 p m ml tl.length (fun i=>Ph p m ml sc (AQ l1 i)) l1.length) (fun i=>OT tl (AQ l2 i)) l2.length
 if 0<=k then(1,k) else(-1,-1)
end
def P4(i n:Nat):List Int:=il n (Ax (fun _=>0) i 1)
def I3(R1 R2:Nat)(s:Int × Int):List Int:=if s.1=0 then P4 s.2.toNat R1 else if s.1=1 then P4 s.2.toNat R2 else []
theorem JN{N j:Nat}(h:j<N)(f:Nat->Int):(il N f).getD j 0=f j:=by
 rw[List.getD_eq_getElem?_getD,AM h];rfl
theorem Ml(pr:Nat->Bool)(n:Nat):CD pr n<n/\-1<=CD pr n:=by
 unfold CD;split
 .rename_i i h;have:=List.mem_range.1 (List.mem_of_find?_eq_some h);omega
 .omega
theorem Tj(t:Nat)(v:Nat->Int):RF t v<t/\-1<=RF t v:=Ml _ _
section
variable {p m:Nat} {ml:List Int}
theorem U9{t:Nat}{e:MW}{r:Nat->Int}(h:∀i,i<e.n->e.pl i<t):∀i,i<(Gc p m ml t e r).n->(Gc p m ml t e r).pl i<t:=by
 have hz:=Tj t (e.red p m ml r);unfold Gc;split
 .intro i hi;simp only at hi ⊢;by_cases e1:i=e.n
  .subst e1;rw[Ad];omega
  .rw[Ae _ _ e1];exact h i ac
 .exact h
theorem I7(t:Nat)(rows:Nat->Nat->Int):∀k i,i<(G6 p m ml t rows k).n->(G6 p m ml t rows k).pl i<t
 | 0=>fun i hi=>by simp only[G6]at hi;omega
 | k+1=>U9 (I7 t rows k)
theorem W8{t:Nat}{e:MW}{r:Nat->Int}:(Gc p m ml t e r).n<=e.n+1:=by
 unfold Gc;split
 .simp
 .omega
theorem WF(t:Nat)(rows:Nat->Nat->Int):∀k,(G6 p m ml t rows k).n<=k
 | 0=>by simp[G6]
 | k+1=>by
  have:=WF t rows k;have:=W8 (p:=p) (m:=m) (ml:=ml) (t:=t) (e:=G6 p m ml t rows k) (r:=rows k);show(Gc p m ml t _ _).n<=_
  omega
end
structure Nd where
 tl:List Int
 sc:List Int
 side:Int
 msg:List Int
def IC{σ:Type}(step:σ->List Int->List Int->σ × Int)(tl sc:List Int)(j:Nat):Nat->σ->σ × Int
 | 0,s=>(s,0)
 | c+1,s=>if (IC step tl sc j c s).2≠0 then IC step tl sc j c s else step (IC step tl sc j c s).1 (tl ++ [(j:Int)]) (sc ++ [((c+1:Nat):Int)])
def Fb{σ:Type}(step:σ->List Int->List Int->σ × Int)(q:Nat)(tl sc:List Int):Nat->σ->σ × Int
 | 0,s=>(s,0)
 | j+1,s=>if (Fb step q tl sc j s).2≠0 then Fb step q tl sc j s else if tl.contains (j:Int) then Fb step q tl sc j s else IC step tl sc j (q-1) (Fb step q tl sc j s).1
def Nf(p m:Nat)(ml:List Int)(l1 l2:List (List Int))(n:Nat):Nat->Nat × List Nd->List Int->List Int->(Nat × List Nd) × Int
 | d,s,tl,sc=>
  if s.1=65536 then(s,8) else
  let w:=FT p m ml l1 l2 tl sc
  let s1:=(s.1+1,s.2 ++ [⟨tl,sc,w.1,I3 l1.length l2.length w⟩])
  if 0<=w.1 then(s1,0) else if tl.length=n then(s1,18) else
  match d with
  | 0=>(s1,0)
  | d+1=>Fb (Nf p m ml l1 l2 n d) (p^m) tl sc n s1
def Ep(f:Nat->Int)(i j:Nat):Int:=if j<i then f j else 0
theorem K5(f:Nat->Int):Ep f 0=fun _=>0:=by funext j;unfold Ep;rw[if_neg ac]
theorem K6(f:Nat->Int)(i:Nat):Ax (Ep f i) i (f i)=Ep f (i+1):=by
 funext j;by_cases e:j=i
 .subst e;rw[Ad];unfold Ep;rw[if_pos ac]
 .rw[Ae _ _ e];unfold Ep;by_cases h:j<i
  .exact zaZ
  .exact za0
theorem NQ{f:Nat->Int}{n j:Nat}(h:j<n):Ep f n j=f j:=by unfold Ep;rw[if_pos h]
theorem AH(w:World)(u v:Value):(w.alloc (.cells #[u,v] 71)).cell? ⟨w.heap.size,0,none⟩=some u/\(w.alloc (.cells #[u,v] 71)).cell? ⟨w.heap.size,1,none⟩=some v/\Ex w (w.alloc (.cells #[u,v] 71))/\(w.alloc (.cells #[u,v] 71)).heap.size=w.heap.size+1:=
 ⟨ag,ag,(Ex.refl w).alloc _,ag⟩
section
variable {b p m x0:Nat} {ml:List Int}
theorem Ju(w:World)(hg:AP w b p m ml x0)(A:Nat)(hA:w.cell? ⟨A,0,none⟩=some (.pointer (some ⟨b,0,none⟩)))(N:Nat)(hN:N<=1000)(tl sl x:List Int)(tv sv xv:Value)(ht:Aj w tv tl)(hs:Aj w sv sl)(hx:Aj w xv x)(aP:tl.length=N)(aK:sl.length=N)(hxl:N<=x.length):
  Calls Tryz.prog 228 #[.pointer (some ⟨A,0,none⟩),.agg #[tv,sv],xv] w fun r w'=>∃g,r= .returned (.slice (some ⟨g,0,none⟩) N N)/\AI w' w.heap.size 3 g N (iv (Ph p m ml sl fun j=>x.getD j 0))/\Ex w w':=by
 obtain⟨b0,b1,eb,aD⟩:=AH w tv sv;have aZ:=Aa (fun (w1:World) (h1:Ex w w1) (y z:Int)=>DC w1 (hg.ex h1) y z);obtain⟨ta,tc,rfl,_,t2,_⟩:=ht.open;obtain⟨sa,sc,rfl,_,s2,s3⟩:=hs.open;obtain⟨xa,xc,rfl,_,x2,x3⟩:=hx.open;unfold maxLen at t2 s2 x2;rw[aK]at s3;rw[aP,aK]at b0 b1 eb aD ⊢;obtain⟨S3,X3,bC,bB,aB,HA⟩:=To s3 x3 (fun i (hi:i<N)=>Aw (l:=sl) (i:=i) ac) (fun i (hi:i<N)=>Aw (l:=x) (i:=i) ac) eb hA;obtain⟨F,hF⟩:∃F,(Ph p m ml sl fun j=>x.getD j 0)=F:=⟨_,rfl⟩;have bD:=Aa (fun i=>congrFun hF i);rw[hF];clear hg ht hs hx s3 x3 eb aP aK hA hF;go_enter Tryz.func228,Tryz.ntmps228
 go_wp2_with (at_make;refine Aq _ rfl _ _ 22 rfl 3 (.int .i64 0) 8 Tryz.underlying22 Au rfl _ N rfl rfl rfl ac ai ?_)
 obtain⟨B,hB⟩:=nA w.heap.size;rw[hB]at b0 b1 aD
 try simp only[hB]
 have bF:=Aa hB;clear hB;generalize w.alloc (.cells #[.slice ta N tc,.slice sa N sc] 71)=w1 at *;intro w3 aA aJ;have B0:=Aa b0;have B1:=Aa b1;obtain⟨g,aE⟩:=nA (B+1);have aS:=Aa (show AI w3 g 3 g N (iv (Ep F 0)) from by rw[<-aE,K5];exact aA)
 try simp only[aE]
 have aX:=Aa aJ;have aU:=Aa (show w1.heap.size=g from by rw[<-aE,<-aD]);have aW:=aJ.cell b1;clear aA aJ b0 b1 aE aD;go_wp2_with fail
 go_loopw [17] (fun i' wr=>∃(i:Nat),i<=N/\i'= .int .i64 i/\Hia (AI wr g 3 g N (iv (Ep F i)))/\Hia (Ex w1 wr)) (fun i' _=>N-(intOf i').toNat)
 case atStart=>exact⟨0,ac,rfl,aS,aX⟩
 case round=>
  clear aS aW;obtain⟨i,hi,rfl,aA,aF⟩:=hrel;by_cases hin:i<N
  .obtain⟨sb,so,rfl,aQ⟩:=S3.o ac;obtain⟨xb,xo,rfl,aO⟩:=X3.o ac;have aI:=Aa (aB.o.trans aF.o);obtain⟨s,hs⟩:=nA (sl.getD i 0);have aM:=bC.o i hin;rw[hs]at aM;have cs:=aI.o.cell (aQ i _ aM);obtain⟨z,hz⟩:=nA (x.getD i 0);have aL:=bB.o i hin;rw[hz]at aL;have aV:=Aa (aO i _ aL);have i1:(0:Int)<=(i:Int):=by omega
   have i2:(i:Int)<(N:Int):=ac;have i3:(i:Int)<(x.length:Int):=ac;have aT:=Aa (fun (w5:World) (h5:Ex wr w5)=>aZ.o w5 (aI.o.trans h5) s z);obtain⟨u,hu⟩:=nA (Ap p m (lw ml) (Az (p^m) s) (Az (p^m) z));rw[hu]at aT;have aY:=Aa (show Ax (Ep F i) i (u:Int)=Ep F (i+1) from by
    rw[<-K6,<-bD.o i];show _=Ax (Ep F i) i ((Ap p m (lw ml) (Az (p^m) (sl.getD i 0)) (Az (p^m) (x.getD i 0)):Nat):Int)
    rw[hs,hz,hu])
   have aH:=Aa aA.o;have bE:=Aa aF.o;have aG:=Aa (fun (w5:World) (h5:Ex wr w5)=>(aH.o.ex h5).exSet (a:=w1) (Nat.le_of_eq aU.o) (bE.o.trans h5) i (.int .i64 (u:Int)));have aR:=Aa (fun (w5:World) (h5:Ex wr w5)=>show AI (w5.setCell ⟨g,i,none⟩ (.int .i64 (u:Int))) g 3 g N (iv (Ep F (i+1))) from by
    rw[<-aY.o,<-CN];exact(aH.o.ex h5).set i _)
   have bA:=Aa hin;have aC:=Aa (fun (w5:World) (h5:Ex wr w5)=>(⟨(aI.o.trans h5).cell HA.o,(aI.o.trans h5).cell aV.o⟩:w5.cell? ⟨A,0,none⟩=some (.pointer (some ⟨b,0,none⟩))/\w5.cell? ⟨xb,xo+i,none⟩=some (.int .i64 z)));have aN:=Aa (fun (w5:World) (h5:Ex wr w5)=>(⟨(aB.o.trans (aG.o w5 h5)).cell HA.o,(aB.o.trans (aG.o w5 h5)).cell aV.o⟩:(w5.setCell ⟨g,i,none⟩ (.int .i64 (u:Int))).cell? ⟨A,0,none⟩=some (.pointer (some ⟨b,0,none⟩))/\(w5.setCell ⟨g,i,none⟩ (.int .i64 (u:Int))).cell? ⟨xb,xo+i,none⟩=some (.int .i64 z)));clear hs aM hz aL hu aQ aO aA aF;go_wp2_with fail
   have G0:Ex wr wr.drew:=(Ex.refl wr).drew
   go_region_held3 (fun w'=>w'.cell? ⟨A,0,none⟩=some (.pointer (some ⟨b,0,none⟩))/\w'.cell? ⟨xb,xo+i,none⟩=some (.int .i64 z))
    (first|with_reducible exact aC.o _ G0|with_reducible exact aC.o _ X6|with_reducible exact aN.o _ X6)
    (first|(go_at_call 106;(with_reducible refine(aT.o _ G0).mono ?_);rintro e w6⟨rfl,n6,rfl⟩;have X6:Ex wr (wr.drewN (1+n6)):=(Ex.refl wr).drewN (1+n6);have co6:=(aH.o.ex X6).cell bA.o;have cf6:=(aH.o.ex X6).frz i))
   go_wp2_with fail
   go_roundw
   case rel=>first|exact⟨i+1,ac,by go_num,Aa (aR.o _ X6),Aa (aG.o _ X6)⟩|((repeat apply Exists.intro);exact⟨⟨i+1,ac,by go_num,Aa (aR.o _ X6),Aa (aG.o _ X6)⟩,rfl⟩)
   case measure=>simp[intOf];omega
  .obtain rfl:i=N:=by omega
   go_wp2_with fail
   go_ret;exact⟨g,rfl,(aA.o.mono (by have:=aU.o;have:=bF.o;have:=aB.o.size;omega)).icongr fun j hj=>NQ hj,aB.o.trans aF.o⟩
end
theorem Jf(w:World)(A:Nat)(N:Nat)(hN:N<=1000)(tl y:List Int)(tv sv yv:Value)(ht:Aj w tv tl)(hy:Aj w yv y)(aF:tl.length=N)(hr:Bz tl y.length=true):
  Calls Tryz.prog 227 #[.pointer (some ⟨A,0,none⟩),.agg #[tv,sv],yv] w fun r w'=>∃g,r= .returned (.slice (some ⟨g,0,none⟩) N N)/\AI w' w.heap.size 3 g N (iv (OT tl fun j=>y.getD j 0))/\Ex w w':=by
 obtain⟨b0,b1,eb,aB⟩:=AH w tv sv;obtain⟨ta,tc,rfl,_,t2,t3⟩:=ht.open;obtain⟨ya,yc,rfl,_,y2,y3⟩:=hy.open;unfold maxLen at t2 y2;rw[aF]at t3;rw[aF]at b0 b1 eb aB ⊢;obtain⟨T3,Y3,aW,aY,aX,aI⟩:=To t3 y3 (fun i (hi:i<N)=>Dd hr (i:=i) ac) (fun i (hi:i<N)=>Aw (l:=tl) (i:=i) ac) (fun i (hi:i<y.length)=>Aw (l:=y) (i:=i) hi) eb;obtain⟨F,hF⟩:∃F,(OT tl fun j=>y.getD j 0)=F:=⟨_,rfl⟩;have aZ:=Aa (fun i=>congrFun hF i);rw[hF];clear ht hy t3 y3 eb aF hF hr;go_enter Tryz.func227,Tryz.ntmps227
 go_wp2_with (at_make;refine Aq _ rfl _ _ 22 rfl 3 (.int .i64 0) 8 Tryz.underlying22 Au rfl _ N rfl rfl rfl ac ai ?_)
 obtain⟨B,hB⟩:=nA w.heap.size;rw[hB]at b0 b1 aB
 try simp only[hB]
 have bA:=Aa hB;clear hB;generalize w.alloc (.cells #[.slice ta N tc,sv] 71)=w1 at *;intro w3 aA aE;have B0:=Aa b0;obtain⟨g,aC⟩:=nA (B+1);have aO:=Aa (show AI w3 g 3 g N (iv (Ep F 0)) from by rw[<-aC,K5];exact aA)
 try simp only[aC]
 have aU:=Aa aE;have aP:=Aa (show w1.heap.size=g from by rw[<-aC,<-aB]);have aT:=aE.cell b0;clear aA aE b0 b1 aC aB;go_wp2_with fail
 go_loopw [17] (fun i' wr=>∃(i:Nat),i<=N/\i'= .int .i64 i/\Hia (AI wr g 3 g N (iv (Ep F i)))/\Hia (Ex w1 wr)) (fun i' _=>N-(intOf i').toNat)
 case atStart=>exact⟨0,ac,rfl,aO,aU⟩
 case round=>
  clear aO aT;obtain⟨i,hi,rfl,aA,aD⟩:=hrel;by_cases hin:i<N
  .obtain⟨tb,to_,rfl,aK⟩:=T3.o ac;have aQ:=Aa (aI.o.trans aD.o);have aR:=aW.o i hin;obtain⟨k,hk⟩:=nA ((tl.getD i 0).toNat);have aL:tl.getD i 0=(k:Int):=by omega
   have aS:k<y.length:=ac;obtain⟨yb,yo,rfl,aJ⟩:=Y3.o ac;have aH:=aY.o i hin;rw[aL]at aH;have ct:=aQ.o.cell (aK i _ aH);obtain⟨z,hz⟩:=nA (y.getD k 0);have aG:=aX.o k aS;rw[hz]at aG;have cy:=aQ.o.cell (aJ k _ aG);have i1:(0:Int)<=(i:Int):=db;have i2:(i:Int)<(N:Int):=ac;have i3:(0:Int)<=(k:Int):=ac;have i4:(k:Int)<(y.length:Int):=ac;have aV:=Aa (show Ax (Ep F i) i z=Ep F (i+1) from by
    rw[<-K6,<-aZ.o i];show _=Ax (Ep F i) i (y.getD (tl.getD i 0).toNat 0)
    rw[hk,hz])
   have co:=aA.o.cell hin;have cf:=aA.o.frz i;have aM:=Aa (aA.o.exSet (a:=w1) (Nat.le_of_eq aP.o) aD.o i (.int .i64 z));have aN:=Aa (show AI (wr.setCell ⟨g,i,none⟩ (.int .i64 z)) g 3 g N (iv (Ep F (i+1))) from by
    rw[<-aV.o,<-CN];exact aA.o.set i _)
   clear aR hk aL aH hz aG aK aJ aA aD;go_wp2_with fail
   go_roundw
   case rel=>first|exact⟨i+1,ac,by go_num,aN,aM⟩|((repeat apply Exists.intro);exact⟨⟨i+1,ac,by go_num,aN,aM⟩,rfl⟩)
   case measure=>simp[intOf];omega
  .obtain rfl:i=N:=by omega
   go_wp2_with fail
   go_ret;exact⟨g,rfl,(aA.o.mono (by have:=aP.o;have:=bA.o;have:=aI.o.size;omega)).icongr fun j hj=>NQ hj,aI.o.trans aD.o⟩
structure E4(w:World)(E b t:Nat)(e:MW)(rv pv:Value):Prop where
 c0:w.cell? ⟨E,0,none⟩=some (.pointer (some ⟨b,0,none⟩))
 c1:w.cell? ⟨E,1,none⟩=some rv
 c2:w.cell? ⟨E,2,none⟩=some pv
 rows:BT w rv (AL t e.n e.a)
 plc:Aj w pv (il e.n fun i=>(e.pl i:Int))
theorem E4.ex{w w':World}{E b t:Nat}{e:MW}{rv pv:Value}(h:E4 w E b t e rv pv)(hx:Ex w w'):E4 w' E b t e rv pv:=
 ⟨hx.cell h.c0,hx.cell h.c1,hx.cell h.c2,h.rows.ex hx,h.plc.ex hx⟩
theorem Rl(p m:Nat)(ml:List Int)(x:Int)(u r:Nat->Int):Fh p m ml x u r 0=u:=by funext j;unfold Fh;rw[if_neg ac]
theorem Rm(p m:Nat)(ml:List Int)(x:Int)(u r:Nat->Int)(c:Nat):Ax (Fh p m ml x u r c) c (OY p m ml x u r c)=Fh p m ml x u r (c+1):=by
 funext j;by_cases e:j=c
 .subst e;rw[Ad];unfold Fh;rw[if_pos ac]
 .rw[Ae _ _ e];unfold Fh;by_cases h:j<c
  .exact zaZ
  .exact za0
theorem Rn{p m:Nat}{ml:List Int}{x:Int}{u r:Nat->Int}{c:Nat}(h:r c=0):Fh p m ml x u r (c+1)=Fh p m ml x u r c:=by
 funext j;unfold Fh;by_cases e:j=c
 .subst e;rw[if_pos ac,if_neg ac];unfold OY;rw[if_pos h]
 .by_cases h:j<c
  .exact zaZ
  .exact za0
theorem SR{p m:Nat}{ml:List Int}{x:Int}{u r:Nat->Int}{t j:Nat}(h:j<t):Fh p m ml x u r t j=OY p m ml x u r j:=by unfold Fh;rw[if_pos h]
theorem SS(w:World)(x:Int):
  Calls Tryz.prog 269 #[.int .i64 x] w fun r w'=>r= .returned (.bool (x !=0))/\Ex w w':=by
 go_enter Tryz.func269,Tryz.ntmps269
 go_wp2_with fail
 go_ret;exact⟨rfl,Ex.refl _⟩
section
variable {b p m x0:Nat} {ml:List Int}
theorem Jh(w:World)(hg:AP w b p m ml x0)(E t:Nat)(ht:t<=1000)(e:MW)(rv pv:Value)(hE:E4 w E b t e rv pv)(aR:∀i,i<e.n->e.pl i<t)(f:Nat->Int)(vv:Value)(hv:Aj w vv (il t f)):
  Calls Tryz.prog 261 #[.pointer (some ⟨E,0,none⟩),vv] w fun r w'=>∃v',r= .returned (.tuple #[v',.int .i64 (RF t (e.red p m ml f))])/\Aj w' v' (il t (e.red p m ml f))/\Ex w w':=by
 obtain⟨n,a,pl⟩:=e;simp only[MW.red]at *;obtain⟨e0,e1,e2,aC,aH⟩:=hE;simp only at e1 e2 aC aH aR;obtain⟨ra,rc,rfl,r1,r2,r3⟩:=aC.open;obtain⟨pa,pc,rfl,p1,p2,p3⟩:=aH.open;rw[B9]at r1 r3 e1;rw[AR]at p1 p3 e2;unfold maxLen at r2 p2;obtain⟨R3,P3,E0,E1,E2,bT,HG⟩:=OK r3 p3 e0 e1 e2 aR hg;by_cases ht0:t=0
 .subst ht0;have bP:n=0:=by
   by_cases h:n=0
   .exact h
   .exact absurd (aR 0 ac) ac
  subst bP;have aN:=Aa (EV w (il 0 f) vv hv (by simp[il]));clear hv hg aC aH r3 p3 aR;have aT:Vm p m ml a pl f 0=f:=rfl;rw[aT];go_enter Tryz.func261,Tryz.ntmps261
  go_wp2_with fail
  refine aN.o.mono ?_;rintro e w1⟨v1,rfl,aW,-,aJ⟩;have bG:=aJ.cell E1.o;have bI:=Aa aW;have aT:=Aa aJ;obtain⟨va,vc,rfl,-,-,-⟩:=aW.open;clear aW aJ;go_wp2_with fail
  go_loopw [18] (fun i' wr=>i'= .int .i64 0/\wr=w1) (fun i' _=>0)
  case atStart=>exact⟨rfl,rfl⟩
  case round=>
   obtain⟨rfl,rfl⟩:=hrel;have aZ:=Aa (F9 wr (.slice va (il 0 f).length vc) 0 [] (by simpa[Aj,il,Al]using bI.o) (fun j=>f j !=0) (fun w1 i u h1 hu=>by simp at hu));go_wp2_with fail
   refine aZ.o.mono ?_;rintro e w2⟨rfl,aO⟩;have aK:=Aa aO;clear aO;go_wp2_with fail
   go_ret2;exact⟨_,rfl,bI.o.ex aK.o,aT.o.trans aK.o⟩
 .obtain⟨aN,bJ,bM,bU⟩:=Eq (Lk w (il t f) vv hv (by rw[AR];omega) (by rw[AR];omega)) (fun (w1:World) (h1:Ex w w1) (y z:Int)=>Wt w1 (HG.o.ex h1) y z) (fun (w1:World) (h1:Ex w w1) (y z:Int)=>DC w1 (HG.o.ex h1) y z) hg.sh.p2;obtain⟨K,hK⟩:=nA (Vm p m ml a pl f);have bX:=Aa (show K 0=f from by rw[<-hK];rfl);have bW:=Aa (fun k=>show K (k+1)=Xi p m ml (K k) (pl k) (a k) from by rw[<-hK];rfl);rw[hK];rw[AR]at aN;obtain⟨va,vc,rfl,-,-,-⟩:=hv.open;rw[AR]at aN ⊢;clear hv hg aC aH r3 p3 aR hK;go_enter Tryz.func261,Tryz.ntmps261
  go_wp2_with fail
  refine aN.o.mono ?_;rintro e w1⟨g,cap,rfl,bE,aJ⟩;have bG:=aJ.cell E1.o;have bL:=Aa (show AO w1 w.heap.size 3 g t cap (iv (K 0)) from bE.icongr fun j hj=>by
   rw[bX.o];exact JN hj f)
  have aT:=Aa aJ;clear bE aJ;go_wp2_with fail
  go_loopw [18] (fun i' wr=>∃i:Nat,i<=n/\i'= .int .i64 i/\Hia (AO wr w.heap.size 3 g t cap (iv (K i)))/\Hia (Ex w wr)) (fun i' _=>n-(intOf i').toNat)
  case atStart=>exact⟨0,ac,rfl,bL,aT⟩
  case round=>
   clear bL bG;obtain⟨i,hi,rfl,aA,aD⟩:=hrel;by_cases hin:i<n
   .obtain⟨rb,ro,rfl,aQ⟩:=R3.o ac;obtain⟨pb,po,rfl,bD⟩:=P3.o ac;obtain⟨uv,aP,bA⟩:=aQ i _ (FC hin);have cu:=aD.o.cell aP;have cp:=aD.o.cell (bD i _ (AM hin _));have d0:=aD.o.cell E0.o;have d2:=aD.o.cell E2.o;have bB:=bT.o i hin;have co:wr.cell? ⟨g,pl i,none⟩=some (.int .i64 (K i (pl i))):=aA.o.cell bB;have i1:(0:Int)<=(i:Int):=by omega
    have i2:(i:Int)<(n:Int):=ac;have i3:(0:Int)<=(pl i:Int):=ac;have i4:(pl i:Int)<(t:Int):=ac;have aY:=Aa bA;have aE:=Aa aA.o;have aB:=Aa aD.o;have aF:=bW.o i;obtain⟨r,hr⟩:=nA (a i);rw[hr]at aY aF;obtain⟨u,hu⟩:=nA (K i);rw[hu]at aE aF co;obtain⟨pi,bC⟩:∃q,pl i=q:=⟨_,rfl⟩;rw[bC]at co aF bB i3 i4 cp;obtain⟨x,hx⟩:=nA (u pi);rw[hx]at co;unfold Xi at aF;rw[hx]at aF;obtain⟨ua,uc,rfl,u1,u2,u3⟩:=aY.o.open;rw[AR]at u1 u3 cu;unfold maxLen at u2;have U3:=Aa u3;clear bD aQ aP bA u3 hr hu bC aA aD aY;by_cases h0:x=0
    .rw[if_pos h0]at aF;have bS:(x !=0)=false:=by simp[h0]
     have aI:=Aa (show AO wr w.heap.size 3 g t cap (iv (K (i+1))) from by rw[aF];exact aE.o);clear h0 hx aF;go_wp2_with fail
     go_roundw
     case rel=>exact⟨i+1,ac,by go_num,aI,aB⟩
     case measure=>simp[intOf];omega
    .rw[if_neg h0]at aF;have bS:(x !=0)=true:=by simpa using h0
     have bN:=Aa aF;clear h0 hx aF;go_wp2_with fail
     obtain⟨w8,aU⟩:∃w8,w8=wr:=⟨_,rfl⟩;have aM:=Aa aB.o;rw[<-aU]at aM;obtain⟨bK,bV,HWW,U8⟩:=Eq (show AO w8 w.heap.size 3 g t cap (iv (Fh p m ml x u r 0)) from by rw[Rl,aU];exact aE.o) (show ∀w',Ex w w'->w'.cell? ⟨E,0,none⟩=some (.pointer (some ⟨b,0,none⟩)) from fun w' h=>h.cell E0.o) (aU ▸ aB.o) (show 0<t->∃bH o,ua=some ⟨bH,o,none⟩/\∀(j:Nat) (x:Int),(il t r)[j]?=some x->w.cell? ⟨bH,o+j,none⟩=some (.int .i64 x) from U3.o);subst aU;clear co cp cu d0 d2 aE aB
     go_loopw [37] (fun c' wr=>∃c:Nat,c<=t/\c'= .int .i64 c/\Hia (AO wr w.heap.size 3 g t cap (iv (Fh p m ml x u r c)))/\Hia (Ex w wr)) (fun c' _=>t-(intOf c').toNat)
     case atStart=>exact⟨0,ac,rfl,bK,aM⟩
     case round=>
      clear bK aM;obtain⟨c,hc,rfl,aA,aD⟩:=hrel;by_cases hct:c<t
      .obtain⟨ub,uo,rfl,aP⟩:=U8.o ac;have d1:=aD.o.cell (aP c (r c) (AM hct r));have j1:(0:Int)<=(c:Int):=by omega
       have j2:(c:Int)<(t:Int):=ac;have aB:=Aa aD.o;have aE:=Aa aA.o;clear aP aA aD;by_cases hr0:r c=0
       .have bF:(r c !=0)=false:=by simp[hr0]
        have aI:=Aa (show AO wr w.heap.size 3 g t cap (iv (Fh p m ml x u r (c+1))) from by rw[Rn hr0];exact aE.o);clear hr0 aE;go_wp2_with fail
        go_roundw
        case rel=>exact⟨c+1,ac,by go_num,aI,aB⟩
        case measure=>simp[intOf];omega
       .have bF:(r c !=0)=true:=by simpa using hr0
        have bR:wr.cell? ⟨g,c,none⟩=some (.int .i64 (u c)):=by
         rw[aE.o.cell hct];show some (Value.int .i64 (Fh p m ml x u r c c))=_;unfold Fh;rw[if_neg ac]
        have bQ:=aE.o.frz c;have d0:=bV.o _ aB.o;obtain⟨K1,aV⟩:∃K,Ap p m (lw ml) (Az (p^m) x) (Az (p^m) (r c))=K:=⟨_,rfl⟩;have aS:K1<p^m:=by rw[<-aV];exact Cb (by have:=bU.o;omega) _ _
        have aG:=Aa (fun w' (h:Ex w w')=>bM.o w' h x (r c));rw[aV]at aG;obtain⟨K2,aX⟩:∃K,A5 p m (Az (p^m) (u c)) (Dy p m (Az (p^m) (K1:Nat)))=K:=⟨_,rfl⟩;have aL:=Aa (fun w' (h:Ex w w')=>bJ.o w' h (u c) (K1:Nat));rw[aX]at aL;have bO:=Aa (show OY p m ml x u r c=(K2:Nat) from by
         unfold OY;rw[if_neg hr0,aV,<-aX,Bj aS])
        obtain⟨rc,aQ⟩:∃y,r c=y:=⟨_,rfl⟩;rw[aQ]at bF d1 aG;clear aV aX aS hr0 aQ;have aI:=Aa (fun n=>show AO ((wr.drewN n).setCell ⟨g,c,none⟩ (.int .i64 (K2:Nat))) w.heap.size 3 g t cap (iv (Fh p m ml x u r (c+1))) from by
         have:=(aE.o.drewN n).set c (.int .i64 (K2:Nat));rw[CN,<-bO.o,Rm]at this;rw[<-bO.o];exact this)
        have aK:=Aa (fun n=>(aE.o.drewN n).exSet (a:=w) (Nat.le_refl _) (aB.o.drewN n) c (.int .i64 (K2:Nat)));have G0:Ex w wr.drew:=aB.o.drewN 1;clear aE;go_upto_region 11 with fail
        go_region_law
          ((first
                      | (go_simp;go_at_call 106;(with_reducible refine(aG.o _ (aB.o.drewN _)).mono ?_);rintro e wx1⟨rfl,n1,rfl⟩)
                      | (go_simp;go_at_call 106;(with_reducible refine(aG.o _ G0).mono ?_);rintro e wx1⟨rfl,n1,rfl⟩)
                      | (go_simp;go_at_call 268;(with_reducible refine(aL.o _ (aB.o.drewN _)).mono ?_);rintro e wx2⟨rfl,n2,rfl⟩)))
        all_goals
         clear aG aL G0 bR bQ bJ bM aN bN d0 d1;go_wp2_with fail
         go_roundw
         case measure=>simp[intOf];omega
         case rel=>exact⟨c+1,ac,by go_num,Aa (aI.o _),Aa (aK.o _)⟩
      .obtain rfl:c=t:=by omega
       have aI:=Aa (show AO wr w.heap.size 3 g c cap (iv (K (i+1))) from aA.o.icongr fun j hj=>by rw[SR hj,bN.o]);have aB:=Aa aD.o;clear aA aD;go_wp2_with fail
       go_roundw
       case rel=>first|exact⟨i+1,ac,by go_num,aI,aB⟩|((repeat apply Exists.intro);exact⟨⟨i+1,ac,by go_num,aI,aB⟩,rfl⟩)
       case measure=>simp[intOf];omega
   .obtain rfl:i=n:=by omega
    have aE:=Aa aA.o;have aB:=Aa aD.o;have aZ:=Aa (F9 wr (.slice (some ⟨g,0,none⟩) t cap) t _ aA.o.sl (fun j=>K i j !=0) (fun w1 j u h1 hu=>by
     have hj:j<t:=by
      have:=(List.getElem?_eq_some_iff.1 hu).1;rw[Bu]at this;exact this
     rw[DF hj]at hu;injection hu with hu;subst hu;exact SS w1 (K i j)))
    clear aA aD;go_wp2_with fail
    refine aZ.o.mono ?_;rintro e w2⟨rfl,aO⟩;have aK:=Aa aO;clear aO;go_wp2_with fail
    go_ret2;exact⟨_,rfl,(aE.o.ex aK.o).isl,aB.o.trans aK.o⟩
end
theorem BA.other{w w':World}{base b2:Nat}{e2:TypeId}{s2 n:Nat}{cv pv pv':Value}{M:List (List Int)}{vals xs news:List Value}(h:BA w base cv M vals)(ha:AZ w w' b2 e2 s2 pv pv' n xs news)(hc:AJ cv pv)(hv:∀u∈vals,AJ u pv):
  BA w' base cv M vals/\AJ cv pv'/\∀u∈vals,AJ u pv':=by
 have hn:=h.len;have h0:=ha.row h.cvo hc;refine⟨⟨h0.1,fun i r u h1 h2=>(ha.row (h.row i r u h1 h2) (hv u (List.mem_of_getElem? h2))).1,h.apart⟩,h0.2,fun u hu=>?_⟩;obtain⟨i,hi,e⟩:=List.getElem_of_mem hu;exact(ha.row (h.row i (M[i]'ac) u (List.getElem?_eq_getElem _) ar) (hv u hu)).2
structure Lj(w1 wr:World)(E b:Nat)(M:List (List Int))(P:List Int)(rv pv:Value)(vals:List Value):Prop where
 c0:wr.cell? ⟨E,0,none⟩=some (.pointer (some ⟨b,0,none⟩))
 c1:wr.cell? ⟨E,1,none⟩=some rv
 c2:wr.cell? ⟨E,2,none⟩=some pv
 f1:wr.frozen? ⟨E,1,none⟩=false
 f2:wr.frozen? ⟨E,2,none⟩=false
 rows:BA wr (E+1) rv M vals
 plc:wr.ownsRow (E+1) 3 1 pv P.length (Al P)
 ap:AJ rv pv
 av:∀u∈vals,AJ u pv
 lb:w1.heap.size<=E
 ex:Ex w1 wr
section
variable {w1 wr w':World} {E b:Nat} {M:List (List Int)} {P:List Int} {rv pv v' l:Value} {vals:List Value} {L:List Int} {x:Int}
theorem Lj.later(h:Lj w1 wr E b M P rv pv vals)(hx:Ex wr w'):Lj w1 w' E b M P rv pv vals:=
 ⟨hx.cell h.c0,hx.cell h.c1,hx.cell h.c2,hx.frz h.c1 h.f1,hx.frz h.c2 h.f2,h.rows.ex hx,Ai h.plc hx,h.ap,h.av,h.lb,h.ex.trans hx⟩
theorem DN{w:World}{e:TypeId}{s n:Nat}{v:Value}{xs:List Value}(h:w.ownsRow (E+1) e s v n xs):v.ownBlock≠some E:=fun e=>by
 have:=(h.lt E e).1;omega
theorem Lj.at1(h:Lj w1 wr E b M P rv pv vals)(ha:AZ wr w' (E+1) 22 1 rv v' M.length vals [l]):w'.cell? ⟨E,1,none⟩=some rv/\w'.frozen? ⟨E,1,none⟩=false:=
 ⟨ha.cell h.c1 (fun e=>DN h.rows.cvo e.symm),ha.frz h.c1 h.f1 (fun e=>DN h.rows.cvo e.symm)⟩
theorem zaW{P:Prop}(h:P:=by
 rw[Af (by decide)];exact ha.cell h.c0 aA):P:=h
theorem Lj.app1(h:Lj w1 wr E b M P rv pv vals)(hl:wr.ownsRow (E+1) 3 1 l L.length (Al L))(h1:AJ l rv)(h2:AJ l pv)(ha:AZ wr w' (E+1) 22 1 rv v' M.length vals [l]):
  Lj w1 (w'.setCell ⟨E,1,none⟩ v') E b (M ++ [L]) P v' pv (vals ++ [l]):=by
 have aA:some E≠rv.ownBlock:=fun e=>DN h.rows.cvo e.symm;have hm:=h.rows.app hl h1 ha;have hr:=ha.row h.plc h.ap.symm;refine⟨?_,World.cell?_setCell_same _ _ _ (ha.cell h.c1 aA),?_,?_,?_,hm.setNe (a:=⟨E,1,none⟩) (by show E<E+1;omega) v',?_,hr.2.symm,?_,h.lb,(ha.ex h.ex (by have:=h.lb;omega)).setCell (p:=⟨E,1,none⟩) h.lb _⟩
 .exact zaW
 .rw[Af ae];exact ha.cell h.c2 aA
 .rw[Ar];exact ha.frz h.c1 h.f1 aA
 .rw[Ar];exact ha.frz h.c2 h.f2 aA
 .exact Ac (a:=⟨E,1,none⟩) hr.1 (DN h.plc) v'
 .intro u hu;rcases List.mem_append.1 hu with hu|hu
  .exact h.av u hu
  .simp at hu;subst hu;exact h2
theorem Lj.at2(h:Lj w1 wr E b M P rv pv vals)(ha:AZ wr w' (E+1) 3 1 pv v' P.length (Al P) [.int .i64 x]):w'.cell? ⟨E,2,none⟩=some pv/\w'.frozen? ⟨E,2,none⟩=false:=
 ⟨ha.cell h.c2 (fun e=>DN h.plc e.symm),ha.frz h.c2 h.f2 (fun e=>DN h.plc e.symm)⟩
theorem Lj.app2(h:Lj w1 wr E b M P rv pv vals)(ha:AZ wr w' (E+1) 3 1 pv v' P.length (Al P) [.int .i64 x]):
  Lj w1 (w'.setCell ⟨E,2,none⟩ v') E b M (P ++ [x]) rv v' vals:=by
 have aA:some E≠pv.ownBlock:=fun e=>DN h.plc e.symm;obtain⟨hm,aC,aB⟩:=h.rows.other ha h.ap h.av;have ho:w'.ownsRow (E+1) 3 1 v' (P ++ [x]).length (Al (P ++ [x])):=by
  have:=ha.own;rw[List.length_append,show Al (P ++ [x])=Al P ++ [.int .i64 x] from by unfold Al;simp];exact this
 refine⟨?_,?_,World.cell?_setCell_same _ _ _ (ha.cell h.c2 aA),?_,?_,hm.setNe (a:=⟨E,2,none⟩) (by show E<E+1;omega) v',Ac (a:=⟨E,2,none⟩) ho (DN ho) v',aC,aB,h.lb,(ha.ex h.ex (by have:=h.lb;omega)).setCell (p:=⟨E,2,none⟩) h.lb _⟩
 .exact zaW
 .rw[Af ae];exact ha.cell h.c1 aA
 .rw[Ar];exact ha.frz h.c1 h.f1 aA
 .rw[Ar];exact ha.frz h.c2 h.f2 aA
theorem Lj.at{t:Nat}{e:MW}(h:Lj w1 wr E b (AL t e.n e.a) (il e.n fun i=>(e.pl i:Int)) rv pv vals):E4 wr E b t e rv pv:=
 ⟨h.c0,h.c1,h.c2,h.rows.msl,Sl.own h.plc⟩
end
theorem Lj.new(w1:World)(b:Nat):Lj w1 (w1.alloc (.cells #[.pointer (some ⟨b,0,none⟩),.slice none 0 0,.slice none 0 0] 285)) w1.heap.size b [] [] (.slice none 0 0) (.slice none 0 0) [] where
 c0:=ag
 c1:=ag
 c2:=ag
 f1:=ag
 f2:=ag
 rows:=BA.nil _ _
 plc:=World.ownsRow_nil _ _ _ _
 ap:=AJ.nil _
 av:=fun u h=>(List.not_mem_nil h).elim
 lb:=Nat.le_refl _
 ex:=(Ex.refl _).alloc _
theorem AE(w:World)(o:Obj):Ex w (w.alloc o):=(Ex.refl w).alloc o
theorem Ud{w w':World}{o:Obj}{base:Nat}{e:TypeId}{size:Nat}{v v':Value}{n:Nat}{xs news:List Value}(aB:w.ownsRow base e size v n xs)(aA:w'.ownsRow base e size v' (n+1) (xs++news))
  (hg:(w.alloc o).grownBy w' v.ownBlock) (ha:v'.ownBlock=v.ownBlock∨v'.ownBlock=some (w.alloc o).heap.size):AZ w w' base e size v v' n xs news:=
 ⟨aA,⟨o,hg⟩,by simpa using ha,aB⟩
theorem zaG{P:Prop}(h:P:=by
 exact List.map_congr_left fun i hi=>by
  have:=List.mem_range.1 hi;rw[Ae _ _ (by omega)]):P:=h
theorem zcB{P:Prop}(h:P:=by
 rw[List.range_succ,List.map_append]
 congr 1
 .exact zaG
 .simp[Ad]):P:=h
theorem U6{p m:Nat}{ml:List Int}{t:Nat}{e:MW}{r:Nat->Int}{k:Nat}(h:RF t (e.red p m ml r)=k):
  AL t (Gc p m ml t e r).n (Gc p m ml t e r).a=AL t e.n e.a ++ [il t (CI p m ml (Ze p m ml (Az (p^m) (e.red p m ml r k))) (e.red p m ml r))]/\(il (Gc p m ml t e r).n fun i=>((Gc p m ml t e r).pl i:Int))=(il e.n fun i=>(e.pl i:Int)) ++ [(k:Int)]:=by
 unfold Gc;rw[if_pos ac,h];simp only[Int.toNat_natCast];constructor
 .unfold AL;exact zcB
 .unfold il;exact zcB
theorem U7{p m:Nat}{ml:List Int}{t:Nat}{e:MW}{r:Nat->Int}(h:RF t (e.red p m ml r)=-1):Gc p m ml t e r=e:=by
 unfold Gc;rw[if_neg ac]
section
variable {b p m x0:Nat} {ml:List Int}
theorem I8(w:World)(hg:AP w b p m ml x0)(aZ:1<=x0)(aY:x0<p^m)(A:Nat)(hA:w.cell? ⟨A,0,none⟩=some (.pointer (some ⟨b,0,none⟩)))(t R:Nat)(ht:t<=1000)(hR:R<=1000)(a:Nat->Nat->Int)(v:Value)(hv:BT w v (AL t R a)):
  Calls Tryz.prog 225 #[.pointer (some ⟨A,0,none⟩),v] w fun r w'=>∃E rv pv,r= .returned (.pointer (some ⟨E,0,none⟩))/\E4 w' E b t (G6 p m ml t a R) rv pv/\Ex w w':=by
 obtain⟨ra,rc,rfl,r1,r2,r3⟩:=hv.open;rw[B9]at r1 r3 ⊢;unfold maxLen at r2;obtain⟨R3,HA,HG,cU,cQ,cT,HQ⟩:=OK r3 hA hg (fun (w1:World) (h1:Ex w w1) (y:Int)=>Q7 w1 (hg.ex h1) aZ aY y) (fun (w1:World) (h1:Ex w w1) (c:Int) (f:Nat->Int) (uv:Value) (hu:Aj w1 uv (il t f))=>Lg w1 (hg.ex h1) t f c uv hu ht) (fun (w1:World) (h1:Ex w w1) (E:Nat) (e:MW) (rv pv:Value) (hE:E4 w1 E b t e rv pv) (cK:∀i,i<e.n->e.pl i<t) (f:Nat->Int) (vv:Value) (hu:Aj w1 vv (il t f))=>Jh w1 (hg.ex h1) E t ht e rv pv hE cK f vv hu) (show 1<=p^m from ac);clear hv r3 hg;go_enter Tryz.func225,Tryz.ntmps225
 go_wp2_with fail
 obtain⟨E,hE⟩:=nA w.heap.size;have bI:=Aa (Lj.new w b)
 try simp only[hE]
 rw[hE]at bI;have HEW:=Aa hE;generalize w.alloc (.cells #[.pointer (some ⟨b,0,none⟩),.slice none 0 0,.slice none 0 0] 285)=w2 at *;clear hE
 go_loopw [20] (fun i' wr=>∃(k:Nat) (rv pv:Value) (vals:List Value),k<=R/\i'= .int .i64 k/\Hia (Lj w wr E b (AL t (G6 p m ml t a k).n (G6 p m ml t a k).a) (il (G6 p m ml t a k).n fun i=>((G6 p m ml t a k).pl i:Int)) rv pv vals)) (fun i' _=>R-(intOf i').toNat)
 case atStart=>exact⟨0,_,_,_,ac,rfl,bI⟩
 case round=>
  clear bI;obtain⟨k,rv,pv,vals,hk,rfl,Bd⟩:=hrel;by_cases hkR:k<R
  .obtain⟨rb,ro,rfl,bW⟩:=R3.o ac;obtain⟨uv,bV,bU⟩:=bW k _ (FC hkR);have cu:=Bd.o.ex.cell bV;have i1:(0:Int)<=(k:Int):=by omega
   have i2:(k:Int)<(R:Int):=ac;obtain⟨aL,aJ,cD,aR⟩:=Eq Bd.o (show G6 p m ml t a (k+1)=Gc p m ml t (G6 p m ml t a k) (a k) from rfl) (WF (p:=p) (m:=m) (ml:=ml) t a k) (cT.o wr Bd.o.ex E (G6 p m ml t a k) rv pv Bd.o.at (I7 t a k) (a k) uv (bU.ex Bd.o.ex));obtain⟨e,he⟩:=nA (G6 p m ml t a k);rw[he]at aL aJ aR cD;obtain⟨z,hz⟩:=nA (RF t (e.red p m ml (a k)));have aX:=Tj t (e.red p m ml (a k));rw[hz]at aR aX;have aE:=Aa (fun k' (h:z=(k':Nat))=>U6 (p:=p) (m:=m) (ml:=ml) (t:=t) (e:=e) (r:=a k) (hz.trans h));have aV:=Aa (fun (h:z=-1)=>U7 (p:=p) (m:=m) (ml:=ml) (t:=t) (e:=e) (r:=a k) (hz.trans h));obtain⟨f,hf⟩:=nA (e.red p m ml (a k));rw[hf]at aR aE;rw[<-aJ.o]at aE aV;clear bW bV bU Bd he hz hf aJ;go_wp2_with fail
   refine aR.o.mono ?_;rintro e' w3⟨v3,rfl,bC,bS⟩;have bF:=Aa bC;have aP:=Aa bS;clear bS aR;obtain⟨va,vc,rfl,-,v2,v3⟩:=bC.open;rw[AR]at v3 bF ⊢;clear bC;by_cases hz0:0<=z
   .obtain⟨k',rfl⟩:=Int.eq_ofNat_of_zero_le hz0;have cL:k'<t:=by omega
    obtain⟨bR,bQ⟩:=aE.o k' rfl;obtain⟨vb,vo,rfl,bT⟩:=v3 ac;have cv:=bT k' _ (AM cL f);have cM:decide ((0:Int)<=(k':Int))=true:=ag;have ca:=(aL.o.ex.trans aP.o).cell HA.o;have j1:(0:Int)<=(k':Int):=ac;have j2:(k':Int)<(t:Int):=ac;have bJ:=Aa (fun (w1:World) (h1:Ex w w1)=>cU.o w1 h1 (f k'));obtain⟨IV,aU,aN⟩:∃c:Nat,(∃e2,Pn p m ml (Az (p^m) (f k'))= .tuple #[.int .i64 (c:Nat),e2])/\Az (p^m) (c:Int)=Ze p m ml (Az (p^m) (f k')):=by
     unfold Pn Ze;by_cases h0:Az (p^m) (f k')=0
     .rw[if_pos h0,if_pos h0];exact⟨0,⟨_,rfl⟩,Dm _⟩
     .rw[if_neg h0,if_neg h0];exact⟨_,⟨_,rfl⟩,Bj (Qp HQ.o _)⟩
    obtain⟨e2,aU⟩:=aU;rw[aU]at bJ;have cB:=Aa bR;have cN:=Aa bQ;rw[<-aN]at cB;have aB:=Aa (aL.o.later aP.o);have cW:=Aa ca;have cV:=Aa cv;clear hz0 aU aN v3 bT aX bR bQ aE aV aL aP;go_wp2_with fail
    go_region_held3 (fun w'=>w'.cell? ⟨A,0,none⟩=some (.pointer (some ⟨b,0,none⟩))/\w'.cell? ⟨vb,vo+k',none⟩=some (.int .i64 (f k')))
     (first|exact⟨cW.o,cV.o⟩)
     (first|(go_at_call 250;(with_reducible refine(bJ.o _ aB.o.ex.drew).mono ?_);rintro e w4⟨rfl,n4,rfl⟩))
    obtain⟨w4,bA⟩:=nA (w3.drewN (1+n4));have aO:=Aa (show Ex w3 w4 from by rw[<-bA];exact(Ex.refl w3).drewN _)
    try simp only[bA]
    clear bA ca cv bJ;have aA:=Aa (aB.o.later aO.o);have cO:=Aa (bF.o.ex aO.o);have ca:=(aA.o.ex).cell HA.o;have t1:=aA.o.c1;have T1F:=Aa aA.o.f1;obtain⟨qa,qc,cI⟩:=Ab aA.o.rows.cvo;subst cI;have aJ:=Aa (fun (w1:World) (h1:Ex w4 w1)=>cQ.o w1 (aA.o.ex.trans h1) (IV:Int) f _ (by
     have:=cO.o.ex h1;exact this))
    have G0:Ex w4 w4.drew:=(Ex.refl w4).drew;have bD:(AL t e.n e.a).length=e.n:=B9 _ _ _;rw[bD]at t1;have aS:=Aa bD;have aF:=Aa (show e.n<=k from cD.o);have bG:=Aa t1;clear aB bF bD;go_upto_region 8 with fail
    go_cut [10] from 44 to 70 (fun s10 wx=>∃bO bN aG,Hia (Lj w wx E b (AL t e.n e.a ++ [il t (CI p m ml (Az (p^m) (IV:Int)) f)]) (il e.n fun i=>(e.pl i:Int)) (.slice bO (e.n+1) bN) pv aG))
    case first=>
     have aI:=Aa G0
     go_region_law
      ((first
              | (refine BI bn _ _ _ bn (E+1) 22 (.slice none 0 0) 1 24 Tryz.underlying37 BB rfl ae (.slice qa e.n qc) e.n vals bn (by have h:=Ai aA.o.rows.cvo ((aI.o.trans aK).trans (AE w5 (.cells #[.slice (some ⟨g5,0,none⟩) t t] 22)));rw[aS.o]at h;exact h) _ 1 [.slice (some ⟨g5,0,none⟩) t t] bn (Sl.own (Ei w5 (.slice (some ⟨g5,0,none⟩) t t) 22)) aj (by have:=aF.o;unfold maxLen;omega) (by have:=aF.o;omega) (by have:=cS.o;simp;omega) ?_;intro v8 w8 aC bZ cA;have bK:=Aa (Ud (by have h:=Ai aA.o.rows.cvo (aI.o.trans aK);rw[aS.o]at h;exact h) aC bZ cA);obtain⟨bM,aW⟩:=(aA.o.later (aI.o.trans aK)).at1 (by rw[aS.o];exact bK.o);rw[aS.o]at bM;obtain⟨cG,cF,bB⟩:=Ab aC;subst bB)
              | (go_simp;refine(aJ.o _ aI.o).mono ?_;rintro e w5⟨g5,rfl,aT,aK⟩;have t1:=aK.cell (show w4.drew.cell? ⟨E,1,none⟩=some (.slice qa e.n qc) from bG.o);have cH:=(AE w5 (.cells #[.slice (some ⟨g5,0,none⟩) t t] 22)).cell t1;have cS:=Aa (show E+1<=w5.heap.size from by have h1:=aT.lt;have h2:=World.block_lt_of_cell? _ _ t1;exact h2);go_simp)))
     all_goals
      have aM:=aI.o.trans aK;have aQ:=aA.o.later aM;have bY:w5.ownsRow (E+1) 3 1 (.slice (some ⟨g5,0,none⟩) t t) (il t (CI p m ml (Az (p^m) (IV:Int)) f)).length (Al (il t (CI p m ml (Az (p^m) (IV:Int)) f))):=by
       rw[AR,CO];exact Bq aT (World.block_lt_of_cell? _ _ (aI.o.cell bG.o))
      have bE:∀v2 (e2:TypeId) (n2:Nat) bL,w4.ownsRow (E+1) e2 1 v2 n2 bL->AJ (.slice (some ⟨g5,0,none⟩) t t) v2:=fun v2 e2 n2 bL h=>by
       right;show some g5≠_
       intro e;have h1:=(h.lt g5 e.symm).2;have h2:=aT.lt.1;have h3:=aI.o.size;omega
      have cR:=Aa (aQ.app1 bY (bE _ _ _ _ aA.o.rows.cvo) (bE _ _ _ _ aA.o.plc) (by rw[aS.o];exact bK.o));clear aQ bY bE aM bM aW t1 cH bK aC bZ cA aT aK aJ;go_wp2_with fail
      go_meet
      exact⟨_,_,_,cR⟩
    case rest=>
     obtain⟨bO,bN,aG,hc⟩:=hcut;have t2:=hc.o.c2;have T2F:=Aa hc.o.f2;obtain⟨pa,pc,cJ⟩:=Ab hc.o.plc;subst cJ;rw[AR]at t2;have cP:=Aa (show E+1<=wc.heap.size from World.block_lt_of_cell? _ _ t2);have HC:=Aa hc.o;have cE:=Aa (AR e.n fun i=>(e.pl i:Int));have cC:=Aa (show wc.ownsRow (E+1) 3 1 (.slice pa e.n pc) e.n (Al (il e.n fun i=>(e.pl i:Int))) from by
      have h:=hc.o.plc;rw[AR]at h;exact h)
     clear hc t1 ca G0 bG aJ aA;go_wp2_with (at_builtin;refine Ak _ rfl _ _ 22 rfl (E+1) 3 (.int .i64 0) 1 8 Tryz.underlying22 Au rfl ae _ e.n _ rfl cC.o [.int .i64 k'] 3 _ rfl ag rfl aj (by have:=aF.o;unfold maxLen;omega) (by have:=aF.o;omega) cP.o ?_)
     intro v8 w8 aH;have aD:AZ wc w8 (E+1) 3 1 (.slice pa (il e.n fun i=>(e.pl i:Int)).length pc) v8 (il e.n fun i=>(e.pl i:Int)).length (Al (il e.n fun i=>(e.pl i:Int))) [.int .i64 k']:=by
      rw[cE.o];exact aH
     obtain⟨aW,t3y⟩:=HC.o.at2 aD;rw[cE.o]at aW;have bH:=Aa (HC.o.app2 aD);rw[<-cB.o,<-cN.o]at bH;obtain⟨cG,cF,bB⟩:=Ab aH.own;subst bB;clear aH aD HC cC;go_wp2_with fail
     go_roundw
     case rel=>first|exact⟨k+1,_,_,_,ac,by go_num,bH⟩|((repeat apply Exists.intro);exact⟨⟨k+1,_,_,_,ac,by go_num,bH⟩,rfl⟩)
     case measure=>simp[intOf];omega
   .have bP:z=-1:=by omega
    have cM:decide ((0:Int)<=z)=false:=aq;have bX:=aV.o bP;have aB:=Aa (aL.o.later aP.o);rw[<-bX]at aB;clear hz0 bP aX bX aE aV aL aP v3;go_wp2_with fail
    go_roundw
    case rel=>exact⟨k+1,_,_,_,ac,by go_num,aB⟩
    case measure=>simp[intOf];omega
  .obtain rfl:k=R:=by omega
   go_wp2_with fail
   go_ret;exact⟨E,rv,pv,rfl,Bd.o.at,Bd.o.ex⟩
end
def Cq(p m:Int)(ml:List Int)(p' m':Int)(aA:List Int):Bool:=p==p'&&m==m'&&ml==aA
theorem Ff{p m:Int}{ml:List Int}{p' m':Int}{ml':List Int}:Cq p m ml p' m' ml'=true↔p=p'/\m=m'/\ml=ml':=by
 unfold Cq;simp[and_assoc]
theorem zcQ{P:Prop}(h:P:=by
 go_wp2_with fail
 go_ret;exact⟨rfl,HE.o⟩):P:=h
theorem R9(w:World)(p m:Int)(ml:List Int)(mv:Value)(aJ:Aj w mv ml)(p' m':Int)(aA:List Int)(aF:Value)(aC:Aj w aF aA):
  Calls Tryz.prog 191 #[.agg #[.int .i64 p,.int .i64 m,mv],.agg #[.int .i64 p',.int .i64 m',aF]] w fun r w'=>r= .returned (.bool (Cq p m ml p' m' aA))/\Ex w w':=by
 obtain⟨a0,a1,a2,ea,-⟩:=Bc w p m mv;obtain⟨b0,b1,b2,eb,-⟩:=Bc (w.alloc (.cells #[.int .i64 p,.int .i64 m,mv] 24)) p' m' aF;replace a0:=eb.cell a0;replace a1:=eb.cell a1;replace a2:=eb.cell a2;have aH:(w.alloc (.cells #[.int .i64 p,.int .i64 m,mv] 24)).heap.size=w.heap.size+1:=ag;rw[aH]at b0 b1 b2;have HE:=Aa (ea.trans eb);obtain⟨ma,mc,rfl,m1',m2,m3⟩:=aJ.open;obtain⟨na,nc,rfl,-,n2,n3⟩:=aC.open;unfold maxLen at m2 n2;obtain⟨R,hR⟩:=nA (Cq p m ml p' m' aA);rw[hR];have M3:=Aa m3;have N3:=Aa n3;have HR:=Aa hR;clear aJ aC aH ea eb m3 n3 hR;go_enter Tryz.func191,Tryz.ntmps191
 by_cases h1:p=p'
 .have aQ:(p !=p')=false:=by simpa using h1
  by_cases h2:m=m'
  .have aP:(m !=m')=false:=by simpa using h2
   by_cases h3:ml.length=aA.length
   .have b3:((ml.length:Int) !=(aA.length:Int))=false:=by simp;omega
    subst h1;subst h2;have hn:∃n,ml.length=n:=⟨_,rfl⟩;have aL:=Aa (show R=true↔ml=aA from by rw[<-HR.o,Ff];simp);have H3:=Aa h3;rw[<-h3]at a0 a1 a2 b0 b1 b2 HE ⊢;clear h3 b3 hn;go_wp2_with fail
    generalize (w.alloc (.cells #[.int .i64 p,.int .i64 m,.slice ma ml.length mc] 24)).alloc (.cells #[.int .i64 p,.int .i64 m,.slice na ml.length nc] 24)=w1 at *;have A2:=Aa a2;have B2:=Aa b2
    go_loopw [31] (fun i' wr=>∃(i:Nat),i<=ml.length/\i'= .int .i64 i/\(∀j,j<i->ml.getD j 0=aA.getD j 0)/\Hia (Ex w1 wr)) (fun i' _=>ml.length-(intOf i').toNat)
    case atStart=>exact⟨0,ac,rfl,fun j hj=>ac,Aa (Ex.refl _)⟩
    case round=>
     obtain⟨i,hi,rfl,aD,aB⟩:=hrel;have aM:=Aa aD;clear aD a0 a1 b0 b1;by_cases hin:i<ml.length
     .obtain⟨mb,mo,rfl,aK⟩:=M3.o ac;obtain⟨nb,no,rfl,aI⟩:=N3.o (by have:=H3.o;omega);have c1:=aB.o.cell (HE.o.cell (aK i _ (show ml[i]?=some (ml.getD i 0) from by rw[List.getD_eq_getElem?_getD,List.getElem?_eq_getElem hin];rfl)));have c2:=aB.o.cell (HE.o.cell (aI i _ (show aA[i]?=some (aA.getD i 0) from by rw[List.getD_eq_getElem?_getD,List.getElem?_eq_getElem (by have:=H3.o;omega)];rfl)));have f2:=aB.o.cell A2.o;have g2:=aB.o.cell B2.o;have j1:(0:Int)<=(i:Int):=by omega
      have j2:(i:Int)<(ml.length:Int):=ac;have aO:m2=m2:=rfl;obtain⟨x,hx⟩:=nA (ml.getD i 0);obtain⟨y,hy⟩:=nA (aA.getD i 0);rw[hx]at c1;rw[hy]at c2;have aE:=Aa (show x=ml.getD i 0/\y=aA.getD i 0 from⟨hx.symm,hy.symm⟩);clear hx hy aK aI a2 b2 aO;by_cases hxy:x=y
      .have aN:=Aa (show ∀j,j<i+1->ml.getD j 0=aA.getD j 0 from fun j hj=>by
        by_cases e:j=i
        .subst e;rw[<-aE.o.1,<-aE.o.2,hxy]
        .exact aM.o j ac)
       have bb:(y !=x)=false:=by simp[hxy]
       have aG:y=x:=hxy.symm;subst aG;clear hxy;go_wp2_with fail
       go_roundw
       case rel=>first|exact⟨i+1,ac,by go_num,aN.o,aB⟩|((repeat apply Exists.intro);exact⟨⟨i+1,ac,by go_num,aN.o,aB⟩,rfl⟩)
       case measure=>simp[intOf];omega
      .have bb:(y !=x)=true:=by simpa using fun h=>hxy h.symm
       have hr:R=false:=Bool.eq_false_iff.2 fun h=>hxy (by rw[aE.o.1,aE.o.2,aL.o.1 h]);subst hr;have aG:¬y=x:=fun h=>hxy h.symm;clear hxy;go_wp2_with fail
       go_ret;exact⟨rfl,HE.o.trans aB.o⟩
     .obtain rfl:i=ml.length:=by omega
      have hr:R=true:=aL.o.2 (List.ext_getElem? fun j=>by
       by_cases hj:j<ml.length
       .have:=aM.o j hj;rw[List.getElem?_eq_getElem hj,List.getElem?_eq_getElem (by have:=H3.o;omega)];rw[List.getD_eq_getElem?_getD,List.getElem?_eq_getElem hj,List.getD_eq_getElem?_getD,List.getElem?_eq_getElem (by have:=H3.o;omega)]at this;simpa using this
       .rw[List.getElem?_eq_none ac,List.getElem?_eq_none (by have:=H3.o;omega)])
      subst hr;go_wp2_with fail
      go_ret;exact⟨rfl,HE.o.trans aB.o⟩
   .have b3:((ml.length:Int) !=(aA.length:Int))=true:=by simp;omega
    have hr:R=false:=by
     rw[<-HR.o];exact Bool.eq_false_iff.2 fun h=>h3 (by rw[(Ff.1 h).2.2])
    subst hr;have h3':¬((ml.length:Int)=(aA.length:Int)):=ac;clear h3 h1 h2;exact zcQ
  .have aP:(m !=m')=true:=by simpa using h2
   have hr:R=false:=by
    rw[<-HR.o];exact Bool.eq_false_iff.2 fun h=>h2 (Ff.1 h).2.1
   subst hr;clear h1 h2;exact zcQ
 .have aQ:(p !=p')=true:=by simpa using h1
  have hr:R=false:=by
   rw[<-HR.o];exact Bool.eq_false_iff.2 fun h=>h1 (Ff.1 h).1
  subst hr;clear h1;exact zcQ
end Go.Proofs.YtehieobniamagaaGreat
