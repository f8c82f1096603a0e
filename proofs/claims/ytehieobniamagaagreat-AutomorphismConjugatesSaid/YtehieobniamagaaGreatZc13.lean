/- Walks of perm.then, inverse, identity; permutations as lists. -/
import Derived.Test.YtehieobniamagaaGreatZc12
namespace Go.Proofs.YtehieobniamagaaGreat
open Go.RowKit
set_option linter.all false
set_option maxRecDepth 100000
set_option maxHeartbeats 4000000
theorem Lj(n:Nat)(f:Nat->Int):(il n f).length=n:=Ao n f
theorem Qp{N:Nat}{f g:Nat->Int}(h:∀j,j<N->f j=g j):il N f=il N g:=by
 apply List.ext_getElem?;intro j;by_cases hj:j<N
 .rw[AQ hj,AQ hj,h j hj]
 .rw[List.getElem?_eq_none (by rw[Lj];omega),List.getElem?_eq_none (by rw[Lj];omega)]
theorem ZU{N j:Nat}(h:j<N)(f:Nat->Int):(il N f).getD j 0=f j:=by
 exact zdg
theorem Wq{n:Nat}{f:Nat->Int}{x:Int}(h:x∈il n f):∃j,j<n/\f j=x:=by
 unfold il at h;obtain⟨j,hj,e⟩:=List.mem_map.1 h;exact⟨j,List.mem_range.1 hj,e⟩
def li(n:Nat)(f:Nat->Nat):List Int:=il n fun i=>(f i:Int)
theorem BB(n:Nat)(f:Nat->Nat):(li n f).length=n:=Lj _ _
theorem Dm{n i:Nat}(h:i<n)(f:Nat->Nat):(li n f)[i]?=some (f i:Int):=AQ h _
theorem WP{n:Nat}{f g:Nat->Nat}(h:∀i,i<n->f i=g i):li n f=li n g:=Qp fun i hi=>by rw[h i hi]
theorem li_at{n:Nat}{f g:Nat->Nat}(h:li n f=li n g){i:Nat}(hi:i<n):f i=g i:=by
 have:=Dm hi f;rw[h,Dm hi g]at this;injection this with this;omega
theorem WO{n:Nat}{f g:Nat->Nat}(hf:AY n f)(hg:AY n g)(h:li n f=li n g):f=g:=Hb hf hg fun i hi=>li_at h hi
theorem DV{w:World}{v:Value}{n:Nat}{f:Nat->Nat}(h:Aj w v (li n f)):∃a cap,v= .slice a n cap/\n<=cap/\cap<=maxLen/\
  (0<n->∃b o,a=some ⟨b,o,none⟩/\∀j,j<n->w.cell? ⟨b,o+j,none⟩=some (.int .i64 (f j:Int))):=by
 obtain⟨a,cap,h1,h2,h3,h4⟩:=h.open;rw[BB]at h1 h2 h4;refine⟨a,cap,h1,h2,h3,fun hn=>?_⟩;obtain⟨b,o,h5,h6⟩:=h4 hn;exact⟨b,o,h5,fun j hj=>h6 j _ (Dm hj f)⟩
theorem AF.li{w:World}{base:Nat}{e:TypeId}{g n:Nat}{f:Nat->Nat}(h:AF w base e g n (iv fun i=>(f i:Int))):Aj w (.slice (some (g,0)) n n) (Go.Proofs.YtehieobniamagaaGreat.li n f):=h.isl
theorem zbO{P:Prop}(h:P:=by
 go_wp2_with fail
 go_roundw
 case rel=>exact⟨k+1,by omega,by go_num,HO,HX⟩
 case measure=>simp[intOf];omega):P:=h
theorem zcY{P:Prop}(h:P:=by
 clear aA;go_wp2_with fail
 go_ret;exact⟨g,rfl,HO.o,hx.o⟩):P:=h
theorem EL(w:World)(n:Nat)(f h:Nat->Nat)(u v:Value)(hu:Aj w u (li n f))(hv:Aj w v (li n h))(hn:n<=100)(hf:∀i,i<n->f i<n):
  Calls Tryz.prog 108 #[u,v] w fun r w'=>∃g,r= .returned (.slice (some ⟨g,0,none⟩) n n)/\AF w' w.heap.size 3 g n (iv fun i=>(Ak f h i:Int))/\Ex w w':=by
 obtain⟨ua,uc,rfl,_,u2,u3⟩:=DV hu;obtain⟨va,vc,rfl,_,v2,v3⟩:=DV hv;unfold maxLen at u2 v2;have U3:=Aa u3;have V3:=Aa v3;have HF:=Aa hf;clear hu hv u3 v3 hf;go_enter Tryz.func108,Tryz.ntmps108
 go_wp2_with (at_make;refine Ar _ rfl _ _ 22 rfl 3 (.int .i64 0) 8 Tryz.underlying22 Az rfl _ n rfl rfl rfl ac ai ?_)
 intro w3 aA aC;obtain⟨g,aB⟩:=nA w.heap.size;have aH:=Aa (show AF w3 g 3 g n (iv fun i=>if i<0 then(Ak f h i:Int) else 0) from by rw[<-aB];exact aA.icongr fun i _=>rfl);have aF:=Aa aC;have aG:=Aa aB;rw[aB]at ⊢;clear aA aC aB;go_wp2_with fail
 go_loopw [13] (fun k' wr=>∃(k:Nat),k<=n/\k'= .int .i64 k/\Hia (AF wr g 3 g n (iv fun i=>if i<k then(Ak f h i:Int) else 0))/\Hia (Ex w wr)) (fun k' _=>n-(intOf k').toNat)
 case atStart=>exact⟨0,ac,rfl,aH,aF⟩
 case round=>
  clear aH aF;obtain⟨k,hk,rfl,aA,hx⟩:=hrel;by_cases hkn:k<n
  .obtain⟨ub,uo,rfl,aE⟩:=U3.o ac;obtain⟨vb,vo,rfl,aD⟩:=V3.o ac;have aI:=HF.o k hkn;have c1:=hx.o.cell (aE k hkn);have c2:=hx.o.cell (aD (f k) aI);have c3:=aA.o.cell hkn;have c4:=aA.o.frz k;have i1:(0:Int)<=(k:Int):=by omega
   have i2:(k:Int)<(n:Int):=ac;have i3:(0:Int)<=(f k:Int):=ac;have i4:(f k:Int)<(n:Int):=ac;have HO:=Aa (show AF (wr.setCell (g,k) (.int .i64 (h (f k):Int))) g 3 g n (iv fun i=>if i<k+1 then(Ak f h i:Int) else 0) from by
    refine(aA.o.set k _).congr fun i hi=>?_;by_cases e:i=k
    .subst e;rw[Ab];show _=Value.int .i64 (if i<i+1 then(Ak f h i:Int) else 0);rw[if_pos ac];rfl
    .rw[Ae _ _ e];show Value.int .i64 (if i<k then(Ak f h i:Int) else 0)=Value.int .i64 (if i<k+1 then(Ak f h i:Int) else 0)
     by_cases h:i<k
     .exact za4
     .rw[if_neg h,if_neg ac])
   have HX:=Aa (aA.o.exSet (a:=w) (by have:=aG.o;omega) hx.o k (.int .i64 (h (f k):Int)));clear aE aD aA hx;exact zbO
  .obtain rfl:k=n:=by omega
   have HO:=Aa (show AF wr w.heap.size 3 g k (iv fun i=>(Ak f h i:Int)) from by
    rw[aG.o];exact aA.o.icongr fun i hi=>if_pos hi)
   exact zcY
theorem Ff(w:World)(n:Nat)(f:Nat->Nat)(u:Value)(hu:Aj w u (li n f))(hn:n<=100)(hf:AY n f):
  Calls Tryz.prog 109 #[u] w fun r w'=>∃g,r= .returned (.slice (some ⟨g,0,none⟩) n n)/\AF w' w.heap.size 3 g n (iv fun i=>(AS n f i:Int))/\Ex w w':=by
 obtain⟨ua,uc,rfl,_,u2,u3⟩:=DV hu;unfold maxLen at u2;have U3:=Aa u3;have HF:=Aa hf;clear hu u3 hf;go_enter Tryz.func109,Tryz.ntmps109
 go_wp2_with (at_make;refine Ar _ rfl _ _ 22 rfl 3 (.int .i64 0) 8 Tryz.underlying22 Az rfl _ n rfl rfl rfl ac ai ?_)
 intro w3 aA aC;obtain⟨g,aB⟩:=nA w.heap.size;have aG:=Aa (show AF w3 g 3 g n (iv fun i=>if AS n f i<0 then(AS n f i:Int) else 0) from by rw[<-aB];exact aA.icongr fun i _=>rfl);have aE:=Aa aC;have aF:=Aa aB;rw[aB]at ⊢;clear aA aC aB;go_wp2_with fail
 go_loopw [11] (fun k' wr=>∃(k:Nat),k<=n/\k'= .int .i64 k/\Hia (AF wr g 3 g n (iv fun i=>if AS n f i<k then(AS n f i:Int) else 0))/\Hia (Ex w wr)) (fun k' _=>n-(intOf k').toNat)
 case atStart=>exact⟨0,ac,rfl,aG,aE⟩
 case round=>
  clear aG aE;obtain⟨k,hk,rfl,aA,hx⟩:=hrel;by_cases hkn:k<n
  .obtain⟨ub,uo,rfl,aD⟩:=U3.o ac;have aH:=HF.o.lt k hkn;have c1:=hx.o.cell (aD k hkn);have c3:=aA.o.cell aH;have c4:=aA.o.frz (f k);have i1:(0:Int)<=(k:Int):=by omega
   have i2:(k:Int)<(n:Int):=ac;have i3:(0:Int)<=(f k:Int):=ac;have i4:(f k:Int)<(n:Int):=ac;have HO:=Aa (show AF (wr.setCell (g,f k) (.int .i64 (k:Int))) g 3 g n (iv fun i=>if AS n f i<k+1 then(AS n f i:Int) else 0) from by
    refine(aA.o.set (f k) _).congr fun i hi=>?_;by_cases e:i=f k
    .subst e;rw[Ab];show _=Value.int .i64 (if AS n f (f k)<k+1 then(AS n f (f k):Int) else 0);rw[HF.o.inv_l,if_pos ac]
    .rw[Ae _ _ e];show Value.int .i64 (if AS n f i<k then(AS n f i:Int) else 0)=Value.int .i64 (if AS n f i<k+1 then(AS n f i:Int) else 0)
     have h1:AS n f i≠k:=fun h=>e (by rw[<-h,HF.o.inv_r]);by_cases h:AS n f i<k
     .exact za4
     .rw[if_neg h,if_neg ac])
   have HX:=Aa (aA.o.exSet (a:=w) (by have:=aF.o;omega) hx.o (f k) (.int .i64 (k:Int)));clear aD aA hx;exact zbO
  .obtain rfl:k=n:=by omega
   have HO:=Aa (show AF wr w.heap.size 3 g k (iv fun i=>(AS k f i:Int)) from by
    rw[aF.o];exact aA.o.icongr fun i hi=>if_pos (HF.o.inv.lt i hi))
   exact zcY
theorem F5(w:World)(n:Nat)(hn:n<=100):
  Calls Tryz.prog 102 #[n] w fun r w'=>∃g,r= .returned (.slice (some ⟨g,0,none⟩) n n)/\AF w' w.heap.size 3 g n (iv fun i=>(DA i:Int))/\Ex w w':=by
 go_enter Tryz.func102,Tryz.ntmps102
 go_wp2_with (at_make;refine Ar _ rfl _ _ 22 rfl 3 (.int .i64 0) 8 Tryz.underlying22 Az rfl _ n rfl rfl rfl ac ai ?_)
 intro w3 aA aC;obtain⟨g,aB⟩:=nA w.heap.size;have aF:=Aa (show AF w3 g 3 g n (iv fun i=>if i<0 then(i:Int) else 0) from by rw[<-aB];exact aA.icongr fun i _=>rfl);have aD:=Aa aC;have aE:=Aa aB;rw[aB]at ⊢;clear aA aC aB;go_wp2_with fail
 go_loopw [9] (fun k' wr=>∃(k:Nat),k<=n/\k'= .int .i64 k/\Hia (AF wr g 3 g n (iv fun i=>if i<k then(i:Int) else 0))/\Hia (Ex w wr)) (fun k' _=>n-(intOf k').toNat)
 case atStart=>exact⟨0,ac,rfl,aF,aD⟩
 case round=>
  clear aF aD;obtain⟨k,hk,rfl,aA,hx⟩:=hrel;by_cases hkn:k<n
  .have c3:=aA.o.cell hkn;have c4:=aA.o.frz k;have i1:(0:Int)<=(k:Int):=by omega
   have i2:(k:Int)<(n:Int):=ac;have HO:=Aa (show AF (wr.setCell (g,k) (.int .i64 (k:Int))) g 3 g n (iv fun i=>if i<k+1 then(i:Int) else 0) from by
    refine(aA.o.set k _).congr fun i hi=>?_;by_cases e:i=k
    .subst e;rw[Ab];show _=Value.int .i64 (if i<i+1 then(i:Int) else 0);rw[if_pos ac]
    .rw[Ae _ _ e];show Value.int .i64 (if i<k then(i:Int) else 0)=Value.int .i64 (if i<k+1 then(i:Int) else 0)
     by_cases h:i<k
     .exact za4
     .rw[if_neg h,if_neg ac])
   have HX:=Aa (aA.o.exSet (a:=w) (by have:=aE.o;omega) hx.o k (.int .i64 (k:Int)));clear aA hx;exact zbO
  .obtain rfl:k=n:=by omega
   have HO:=Aa (show AF wr w.heap.size 3 g k (iv fun i=>(DA i:Int)) from by
    rw[aE.o];exact aA.o.icongr fun i hi=>if_pos hi)
   exact zcY
def FL(f:Nat->Int)(i j:Nat):Int:=if j<i then f j else 0
theorem Nz(f:Nat->Int):FL f 0=fun _=>0:=by funext j;unfold FL;rw[if_neg ac]
theorem NA(f:Nat->Int)(i:Nat):Ay (FL f i) i (f i)=FL f (i+1):=by
 funext j;by_cases e:j=i
 .subst e;rw[Ab];unfold FL;rw[if_pos ac]
 .rw[Ae _ _ e];unfold FL;by_cases h:j<i
  .exact za4
  .exact za5
theorem Qv{f:Nat->Int}{n j:Nat}(h:j<n):FL f n j=f j:=by unfold FL;rw[if_pos h]
theorem AX(w:World)(u v:Value):(w.alloc (.cells #[u,v] 71)).cell? (w.heap.size,0)=some u/\(w.alloc (.cells #[u,v] 71)).cell? (w.heap.size,1)=some v/\Ex w (w.alloc (.cells #[u,v] 71))/\(w.alloc (.cells #[u,v] 71)).heap.size=w.heap.size+1:=
 ⟨ag,ag,(Ex.refl w).alloc _,ag⟩
section
variable {b p m x0:Nat} {ml:List Int}
theorem Lw(w:World)(hg:Bj w b p m ml x0)(A:Nat)(hA:w.cell? (A,0)=some (.pointer (some (b,0))))(N:Nat)(hN:N<=1000)(tl sl x:List Int)(tv sv xv:Value)(ht:Aj w tv tl)(hs:Aj w sv sl)(hx:Aj w xv x)(aP:tl.length=N)(aK:sl.length=N)(hxl:N<=x.length):
  Calls Tryz.prog 228 #[.pointer (some (A,0)),.agg #[tv,sv],xv] w fun r w'=>∃g,r= .returned (.slice (some ⟨g,0,none⟩) N N)/\AF w' w.heap.size 3 g N (iv (Gl p m ml sl fun j=>x.getD j 0))/\Ex w w':=by
 obtain⟨b0,b1,eb,aD⟩:=AX w tv sv;have aZ:=Aa (fun (w1:World) (h1:Ex w w1) (y z:Int)=>Fg w1 (hg.ex h1) y z);obtain⟨ta,tc,rfl,_,t2,_⟩:=ht.open;obtain⟨sa,sc,rfl,_,s2,s3⟩:=hs.open;obtain⟨xa,xc,rfl,_,x2,x3⟩:=hx.open;unfold maxLen at t2 s2 x2;rw[aK]at s3;rw[aP,aK]at b0 b1 eb aD ⊢;obtain⟨S3,X3,bC,bB,aB,HA⟩:=To s3 x3 (fun i (hi:i<N)=>AU (l:=sl) (i:=i) ac) (fun i (hi:i<N)=>AU (l:=x) (i:=i) ac) eb hA;obtain⟨F,hF⟩:∃F,(Gl p m ml sl fun j=>x.getD j 0)=F:=⟨_,rfl⟩;have bD:=Aa (fun i=>congrFun hF i);rw[hF];clear hg ht hs hx s3 x3 eb aP aK hA hF;go_enter Tryz.func228,Tryz.ntmps228
 go_wp2_with (at_make;refine Ar _ rfl _ _ 22 rfl 3 (.int .i64 0) 8 Tryz.underlying22 Az rfl _ N rfl rfl rfl ac ai ?_)
 obtain⟨B,hB⟩:=nA w.heap.size;rw[hB]at b0 b1 aD
 try simp only[hB]
 have bF:=Aa hB;clear hB;generalize w.alloc (.cells #[.slice ta N tc,.slice sa N sc] 71)=w1 at *;intro w3 aA aJ;have B0:=Aa b0;have B1:=Aa b1;obtain⟨g,aE⟩:=nA (B+1);have aS:=Aa (show AF w3 g 3 g N (iv (FL F 0)) from by rw[<-aE,Nz];exact aA)
 try simp only[aE]
 have aX:=Aa aJ;have aU:=Aa (show w1.heap.size=g from by rw[<-aE,<-aD]);have aW:=aJ.cell b1;clear aA aJ b0 b1 aE aD;go_wp2_with fail
 go_loopw [17] (fun i' wr=>∃(i:Nat),i<=N/\i'= .int .i64 i/\Hia (AF wr g 3 g N (iv (FL F i)))/\Hia (Ex w1 wr)) (fun i' _=>N-(intOf i').toNat)
 case atStart=>exact⟨0,ac,rfl,aS,aX⟩
 case round=>
  clear aS aW;obtain⟨i,hi,rfl,aA,aF⟩:=hrel;by_cases hin:i<N
  .obtain⟨sb,so,rfl,aQ⟩:=S3.o ac;obtain⟨xb,xo,rfl,aO⟩:=X3.o ac;have aI:=Aa (aB.o.trans aF.o);obtain⟨s,hs⟩:=nA (sl.getD i 0);have aM:=bC.o i hin;rw[hs]at aM;have cs:=aI.o.cell (aQ i _ aM);obtain⟨z,hz⟩:=nA (x.getD i 0);have aL:=bB.o i hin;rw[hz]at aL;have aV:=Aa (aO i _ aL);have i1:(0:Int)<=(i:Int):=by omega
   have i2:(i:Int)<(N:Int):=ac;have i3:(i:Int)<(x.length:Int):=ac;have aT:=Aa (fun (w5:World) (h5:Ex wr w5)=>aZ.o w5 (aI.o.trans h5) s z);obtain⟨u,hu⟩:=nA (Al p m (lw ml) (Av (p^m) s) (Av (p^m) z));rw[hu]at aT;have aY:=Aa (show Ay (FL F i) i (u:Int)=FL F (i+1) from by
    rw[<-NA,<-bD.o i];show _=Ay (FL F i) i ((Al p m (lw ml) (Av (p^m) (sl.getD i 0)) (Av (p^m) (x.getD i 0)):Nat):Int)
    rw[hs,hz,hu])
   have aH:=Aa aA.o;have bE:=Aa aF.o;have aG:=Aa (fun (w5:World) (h5:Ex wr w5)=>(aH.o.ex h5).exSet (a:=w1) (Nat.le_of_eq aU.o) (bE.o.trans h5) i (.int .i64 (u:Int)));have aR:=Aa (fun (w5:World) (h5:Ex wr w5)=>show AF (w5.setCell (g,i) (.int .i64 (u:Int))) g 3 g N (iv (FL F (i+1))) from by
    rw[<-aY.o,<-CD];exact(aH.o.ex h5).set i _)
   have bA:=Aa hin;have aC:=Aa (fun (w5:World) (h5:Ex wr w5)=>(⟨(aI.o.trans h5).cell HA.o,(aI.o.trans h5).cell aV.o⟩:w5.cell? (A,0)=some (.pointer (some (b,0)))/\w5.cell? (xb,xo+i)=some (.int .i64 z)));have aN:=Aa (fun (w5:World) (h5:Ex wr w5)=>(⟨(aB.o.trans (aG.o w5 h5)).cell HA.o,(aB.o.trans (aG.o w5 h5)).cell aV.o⟩:(w5.setCell (g,i) (.int .i64 (u:Int))).cell? (A,0)=some (.pointer (some (b,0)))/\(w5.setCell (g,i) (.int .i64 (u:Int))).cell? (xb,xo+i)=some (.int .i64 z)));clear hs aM hz aL hu aQ aO aA aF;go_wp2_with fail
   have G0:Ex wr wr.drew:=(Ex.refl wr).drew
   go_region_held3 (fun w'=>w'.cell? (A,0)=some (.pointer (some (b,0)))/\w'.cell? (xb,xo+i)=some (.int .i64 z))
    (first|with_reducible exact aC.o _ G0|with_reducible exact aC.o _ X6|with_reducible exact aN.o _ X6)
    (first|(go_at_call 106;(with_reducible refine(aT.o _ G0).mono ?_);rintro e w6⟨rfl,n6,rfl⟩;have X6:Ex wr (wr.drewN (1+n6)):=(Ex.refl wr).drewN (1+n6);have co6:=(aH.o.ex X6).cell bA.o;have cf6:=(aH.o.ex X6).frz i))
   go_wp2_with fail
   go_roundw
   case rel=>first|exact⟨i+1,ac,by go_num,Aa (aR.o _ X6),Aa (aG.o _ X6)⟩|((repeat apply Exists.intro);exact⟨⟨i+1,ac,by go_num,Aa (aR.o _ X6),Aa (aG.o _ X6)⟩,rfl⟩)
   case measure=>simp[intOf];omega
  .obtain rfl:i=N:=by omega
   go_wp2_with fail
   go_ret;exact⟨g,rfl,(aA.o.mono (by have:=aU.o;have:=bF.o;have:=aB.o.size;omega)).icongr fun j hj=>Qv hj,aB.o.trans aF.o⟩
end
theorem KX(w:World)(A:Nat)(N:Nat)(hN:N<=1000)(tl y:List Int)(tv sv yv:Value)(ht:Aj w tv tl)(hy:Aj w yv y)(aF:tl.length=N)(hr:BD tl y.length=true):
  Calls Tryz.prog 227 #[.pointer (some (A,0)),.agg #[tv,sv],yv] w fun r w'=>∃g,r= .returned (.slice (some ⟨g,0,none⟩) N N)/\AF w' w.heap.size 3 g N (iv (Jc tl fun j=>y.getD j 0))/\Ex w w':=by
 obtain⟨b0,b1,eb,aB⟩:=AX w tv sv;obtain⟨ta,tc,rfl,_,t2,t3⟩:=ht.open;obtain⟨ya,yc,rfl,_,y2,y3⟩:=hy.open;unfold maxLen at t2 y2;rw[aF]at t3;rw[aF]at b0 b1 eb aB ⊢;obtain⟨T3,Y3,aW,aY,aX,aI⟩:=To t3 y3 (fun i (hi:i<N)=>Dy hr (i:=i) ac) (fun i (hi:i<N)=>AU (l:=tl) (i:=i) ac) (fun i (hi:i<y.length)=>AU (l:=y) (i:=i) hi) eb;obtain⟨F,hF⟩:∃F,(Jc tl fun j=>y.getD j 0)=F:=⟨_,rfl⟩;have aZ:=Aa (fun i=>congrFun hF i);rw[hF];clear ht hy t3 y3 eb aF hF hr;go_enter Tryz.func227,Tryz.ntmps227
 go_wp2_with (at_make;refine Ar _ rfl _ _ 22 rfl 3 (.int .i64 0) 8 Tryz.underlying22 Az rfl _ N rfl rfl rfl ac ai ?_)
 obtain⟨B,hB⟩:=nA w.heap.size;rw[hB]at b0 b1 aB
 try simp only[hB]
 have bA:=Aa hB;clear hB;generalize w.alloc (.cells #[.slice ta N tc,sv] 71)=w1 at *;intro w3 aA aE;have B0:=Aa b0;obtain⟨g,aC⟩:=nA (B+1);have aO:=Aa (show AF w3 g 3 g N (iv (FL F 0)) from by rw[<-aC,Nz];exact aA)
 try simp only[aC]
 have aU:=Aa aE;have aP:=Aa (show w1.heap.size=g from by rw[<-aC,<-aB]);have aT:=aE.cell b0;clear aA aE b0 b1 aC aB;go_wp2_with fail
 go_loopw [17] (fun i' wr=>∃(i:Nat),i<=N/\i'= .int .i64 i/\Hia (AF wr g 3 g N (iv (FL F i)))/\Hia (Ex w1 wr)) (fun i' _=>N-(intOf i').toNat)
 case atStart=>exact⟨0,ac,rfl,aO,aU⟩
 case round=>
  clear aO aT;obtain⟨i,hi,rfl,aA,aD⟩:=hrel;by_cases hin:i<N
  .obtain⟨tb,to_,rfl,aK⟩:=T3.o ac;have aQ:=Aa (aI.o.trans aD.o);have aR:=aW.o i hin;obtain⟨k,hk⟩:=nA ((tl.getD i 0).toNat);have aL:tl.getD i 0=(k:Int):=by omega
   have aS:k<y.length:=ac;obtain⟨yb,yo,rfl,aJ⟩:=Y3.o ac;have aH:=aY.o i hin;rw[aL]at aH;have ct:=aQ.o.cell (aK i _ aH);obtain⟨z,hz⟩:=nA (y.getD k 0);have aG:=aX.o k aS;rw[hz]at aG;have cy:=aQ.o.cell (aJ k _ aG);have i1:(0:Int)<=(i:Int):=bu;have i2:(i:Int)<(N:Int):=ac;have i3:(0:Int)<=(k:Int):=ac;have i4:(k:Int)<(y.length:Int):=ac;have aV:=Aa (show Ay (FL F i) i z=FL F (i+1) from by
    rw[<-NA,<-aZ.o i];show _=Ay (FL F i) i (y.getD (tl.getD i 0).toNat 0)
    rw[hk,hz])
   have co:=aA.o.cell hin;have cf:=aA.o.frz i;have aM:=Aa (aA.o.exSet (a:=w1) (Nat.le_of_eq aP.o) aD.o i (.int .i64 z));have aN:=Aa (show AF (wr.setCell (g,i) (.int .i64 z)) g 3 g N (iv (FL F (i+1))) from by
    rw[<-aV.o,<-CD];exact aA.o.set i _)
   clear aR hk aL aH hz aG aK aJ aA aD;go_wp2_with fail
   go_roundw
   case rel=>first|exact⟨i+1,ac,by go_num,aN,aM⟩|((repeat apply Exists.intro);exact⟨⟨i+1,ac,by go_num,aN,aM⟩,rfl⟩)
   case measure=>simp[intOf];omega
  .obtain rfl:i=N:=by omega
   go_wp2_with fail
   go_ret;exact⟨g,rfl,(aA.o.mono (by have:=aP.o;have:=bA.o;have:=aI.o.size;omega)).icongr fun j hj=>Qv hj,aI.o.trans aD.o⟩
structure Gp(w:World)(E b t:Nat)(e:My)(rv pv:Value):Prop where
 c0:w.cell? (E,0)=some (.pointer (some (b,0)))
 c1:w.cell? (E,1)=some rv
 c2:w.cell? (E,2)=some pv
 rows:B9 w rv (Au t e.n e.a)
 plc:Aj w pv (il e.n fun i=>(e.pl i:Int))
theorem Gp.ex{w w':World}{E b t:Nat}{e:My}{rv pv:Value}(h:Gp w E b t e rv pv)(hx:Ex w w'):Gp w' E b t e rv pv:=
 ⟨hx.cell h.c0,hx.cell h.c1,hx.cell h.c2,h.rows.ex hx,h.plc.ex hx⟩
theorem UE(p m:Nat)(ml:List Int)(x:Int)(u r:Nat->Int):GD p m ml x u r 0=u:=by funext j;unfold GD;rw[if_neg ac]
theorem UF(p m:Nat)(ml:List Int)(x:Int)(u r:Nat->Int)(c:Nat):Ay (GD p m ml x u r c) c (Lb p m ml x u r c)=GD p m ml x u r (c+1):=by
 funext j;by_cases e:j=c
 .subst e;rw[Ab];unfold GD;rw[if_pos ac]
 .rw[Ae _ _ e];unfold GD;by_cases h:j<c
  .exact za4
  .exact za5
theorem UG{p m:Nat}{ml:List Int}{x:Int}{u r:Nat->Int}{c:Nat}(h:r c=0):GD p m ml x u r (c+1)=GD p m ml x u r c:=by
 funext j;unfold GD;by_cases e:j=c
 .subst e;rw[if_pos ac,if_neg ac];unfold Lb;rw[if_pos h]
 .by_cases h:j<c
  .exact za4
  .exact za5
theorem Wb{p m:Nat}{ml:List Int}{x:Int}{u r:Nat->Int}{t j:Nat}(h:j<t):GD p m ml x u r t j=Lb p m ml x u r j:=by unfold GD;rw[if_pos h]
theorem Wc(w:World)(x:Int):
  Calls Tryz.prog 269 #[x] w fun r w'=>r= .returned (.bool (x !=0))/\Ex w w':=by
 go_enter Tryz.func269,Tryz.ntmps269
 go_wp2_with fail
 go_ret;exact⟨rfl,Ex.refl _⟩
section
variable {b p m x0:Nat} {ml:List Int}
theorem K9(w:World)(hg:Bj w b p m ml x0)(E t:Nat)(ht:t<=1000)(e:My)(rv pv:Value)(hE:Gp w E b t e rv pv)(aR:∀i,i<e.n->e.pl i<t)(f:Nat->Int)(vv:Value)(hv:Aj w vv (il t f)):
  Calls Tryz.prog 261 #[.pointer (some (E,0)),vv] w fun r w'=>∃v',r= .returned (.tuple #[v',.int .i64 (MK t (e.red p m ml f))])/\Aj w' v' (il t (e.red p m ml f))/\Ex w w':=by
 obtain⟨n,a,pl⟩:=e;simp only[My.red]at *;obtain⟨e0,e1,e2,aC,aH⟩:=hE;simp only at e1 e2 aC aH aR;obtain⟨ra,rc,rfl,r1,r2,r3⟩:=aC.open;obtain⟨pa,pc,rfl,p1,p2,p3⟩:=aH.open;rw[AL]at r1 r3 e1;rw[AJ]at p1 p3 e2;unfold maxLen at r2 p2;obtain⟨R3,P3,E0,E1,E2,bT,HG⟩:=OK r3 p3 e0 e1 e2 aR hg;by_cases ht0:t=0
 .subst ht0;have bP:n=0:=by
   by_cases h:n=0
   .exact h
   .exact absurd (aR 0 ac) ac
  subst bP;have aN:=Aa (Gi w (il 0 f) vv hv (by simp[il]));clear hv hg aC aH r3 p3 aR;have aT:Od p m ml a pl f 0=f:=rfl;rw[aT];go_enter Tryz.func261,Tryz.ntmps261
  go_wp2_with fail
  refine aN.o.mono ?_;rintro e w1⟨v1,rfl,aW,-,aJ⟩;have bG:=aJ.cell E1.o;have bI:=Aa aW;have aT:=Aa aJ;obtain⟨va,vc,rfl,-,-,-⟩:=aW.open;clear aW aJ;go_wp2_with fail
  go_loopw [18] (fun i' wr=>i'= .int .i64 0/\wr=w1) (fun i' _=>0)
  case atStart=>exact⟨rfl,rfl⟩
  case round=>
   obtain⟨rfl,rfl⟩:=hrel;have aZ:=Aa (Hy wr (.slice va (il 0 f).length vc) 0 [] (by simpa[Aj,il,Ap]using bI.o) (fun j=>f j !=0) (fun w1 i u h1 hu=>by simp at hu));go_wp2_with fail
   refine aZ.o.mono ?_;rintro e w2⟨rfl,aO⟩;have aK:=Aa aO;clear aO;go_wp2_with fail
   go_ret2;exact⟨_,rfl,bI.o.ex aK.o,aT.o.trans aK.o⟩
 .obtain⟨aN,bJ,bM,bU⟩:=Eq (JK w (il t f) vv hv (by rw[AJ];omega) (by rw[AJ];omega)) (fun (w1:World) (h1:Ex w w1) (y z:Int)=>Sub_any w1 (HG.o.ex h1) y z) (fun (w1:World) (h1:Ex w w1) (y z:Int)=>Fg w1 (HG.o.ex h1) y z) hg.sh.p2;obtain⟨K,hK⟩:=nA (Od p m ml a pl f);have bX:=Aa (show K 0=f from by rw[<-hK];rfl);have bW:=Aa (fun k=>show K (k+1)=MG p m ml (K k) (pl k) (a k) from by rw[<-hK];rfl);rw[hK];rw[AJ]at aN;obtain⟨va,vc,rfl,-,-,-⟩:=hv.open;rw[AJ]at aN ⊢;clear hv hg aC aH r3 p3 aR hK;go_enter Tryz.func261,Tryz.ntmps261
  go_wp2_with fail
  refine aN.o.mono ?_;rintro e w1⟨g,cap,rfl,bE,aJ⟩;have bG:=aJ.cell E1.o;have bL:=Aa (show Bd w1 w.heap.size 3 g t cap (iv (K 0)) from bE.icongr fun j hj=>by
   rw[bX.o];exact GT hj f)
  have aT:=Aa aJ;clear bE aJ;go_wp2_with fail
  go_loopw [18] (fun i' wr=>∃i:Nat,i<=n/\i'= .int .i64 i/\Hia (Bd wr w.heap.size 3 g t cap (iv (K i)))/\Hia (Ex w wr)) (fun i' _=>n-(intOf i').toNat)
  case atStart=>exact⟨0,ac,rfl,bL,aT⟩
  case round=>
   clear bL bG;obtain⟨i,hi,rfl,aA,aD⟩:=hrel;by_cases hin:i<n
   .obtain⟨rb,ro,rfl,aQ⟩:=R3.o ac;obtain⟨pb,po,rfl,bD⟩:=P3.o ac;obtain⟨uv,aP,bA⟩:=aQ i _ (Dq hin);have cu:=aD.o.cell aP;have cp:=aD.o.cell (bD i _ (AQ hin _));have d0:=aD.o.cell E0.o;have d2:=aD.o.cell E2.o;have bB:=bT.o i hin;have co:wr.cell? (g,pl i)=some (.int .i64 (K i (pl i))):=aA.o.cell bB;have i1:(0:Int)<=(i:Int):=by omega
    have i2:(i:Int)<(n:Int):=ac;have i3:(0:Int)<=(pl i:Int):=ac;have i4:(pl i:Int)<(t:Int):=ac;have aY:=Aa bA;have aE:=Aa aA.o;have aB:=Aa aD.o;have aF:=bW.o i;obtain⟨r,hr⟩:=nA (a i);rw[hr]at aY aF;obtain⟨u,hu⟩:=nA (K i);rw[hu]at aE aF co;obtain⟨pi,bC⟩:∃q,pl i=q:=⟨_,rfl⟩;rw[bC]at co aF bB i3 i4 cp;obtain⟨x,hx⟩:=nA (u pi);rw[hx]at co;unfold MG at aF;rw[hx]at aF;obtain⟨ua,uc,rfl,u1,u2,u3⟩:=aY.o.open;rw[AJ]at u1 u3 cu;unfold maxLen at u2;have U3:=Aa u3;clear bD aQ aP bA u3 hr hu bC aA aD aY;by_cases h0:x=0
    .rw[if_pos h0]at aF;have bS:(x !=0)=false:=by simp[h0]
     have aI:=Aa (show Bd wr w.heap.size 3 g t cap (iv (K (i+1))) from by rw[aF];exact aE.o);clear h0 hx aF;go_wp2_with fail
     go_roundw
     case rel=>exact⟨i+1,ac,by go_num,aI,aB⟩
     case measure=>simp[intOf];omega
    .rw[if_neg h0]at aF;have bS:(x !=0)=true:=by simpa using h0
     have bN:=Aa aF;clear h0 hx aF;go_wp2_with fail
     obtain⟨w8,aU⟩:∃w8,w8=wr:=⟨_,rfl⟩;have aM:=Aa aB.o;rw[<-aU]at aM;obtain⟨bK,bV,HWW,U8⟩:=Eq (show Bd w8 w.heap.size 3 g t cap (iv (GD p m ml x u r 0)) from by rw[UE,aU];exact aE.o) (show ∀w',Ex w w'->w'.cell? (E,0)=some (.pointer (some (b,0))) from fun w' h=>h.cell E0.o) (aU ▸ aB.o) (show 0<t->∃bH o,ua=some ⟨bH,o,none⟩/\∀(j:Nat) (x:Int),(il t r)[j]?=some x->w.cell? ⟨bH,o+j,none⟩=some (.int .i64 x) from U3.o);subst aU;clear co cp cu d0 d2 aE aB
     go_loopw [37] (fun c' wr=>∃c:Nat,c<=t/\c'= .int .i64 c/\Hia (Bd wr w.heap.size 3 g t cap (iv (GD p m ml x u r c)))/\Hia (Ex w wr)) (fun c' _=>t-(intOf c').toNat)
     case atStart=>exact⟨0,ac,rfl,bK,aM⟩
     case round=>
      clear bK aM;obtain⟨c,hc,rfl,aA,aD⟩:=hrel;by_cases hct:c<t
      .obtain⟨ub,uo,rfl,aP⟩:=U8.o ac;have d1:=aD.o.cell (aP c (r c) (AQ hct r));have j1:(0:Int)<=(c:Int):=by omega
       have j2:(c:Int)<(t:Int):=ac;have aB:=Aa aD.o;have aE:=Aa aA.o;clear aP aA aD;by_cases hr0:r c=0
       .have bF:(r c !=0)=false:=by simp[hr0]
        have aI:=Aa (show Bd wr w.heap.size 3 g t cap (iv (GD p m ml x u r (c+1))) from by rw[UG hr0];exact aE.o);clear hr0 aE;go_wp2_with fail
        go_roundw
        case rel=>exact⟨c+1,ac,by go_num,aI,aB⟩
        case measure=>simp[intOf];omega
       .have bF:(r c !=0)=true:=by simpa using hr0
        have bR:wr.cell? (g,c)=some (.int .i64 (u c)):=by
         rw[aE.o.cell hct];show some (Value.int .i64 (GD p m ml x u r c c))=_;unfold GD;rw[if_neg ac]
        have bQ:=aE.o.frz c;have d0:=bV.o _ aB.o;obtain⟨K1,aV⟩:∃K,Al p m (lw ml) (Av (p^m) x) (Av (p^m) (r c))=K:=⟨_,rfl⟩;have aS:K1<p^m:=by rw[<-aV];exact Bc (by have:=bU.o;omega) _ _
        have aG:=Aa (fun w' (h:Ex w w')=>bM.o w' h x (r c));rw[aV]at aG;obtain⟨K2,aX⟩:∃K,AH p m (Av (p^m) (u c)) (CI p m (Av (p^m) (K1:Nat)))=K:=⟨_,rfl⟩;have aL:=Aa (fun w' (h:Ex w w')=>bJ.o w' h (u c) (K1:Nat));rw[aX]at aL;have bO:=Aa (show Lb p m ml x u r c=(K2:Nat) from by
         unfold Lb;rw[if_neg hr0,aV,<-aX,AA aS])
        obtain⟨rc,aQ⟩:∃y,r c=y:=⟨_,rfl⟩;rw[aQ]at bF d1 aG;clear aV aX aS hr0 aQ;have aI:=Aa (fun n=>show Bd ((wr.drewN n).setCell (g,c) (.int .i64 (K2:Nat))) w.heap.size 3 g t cap (iv (GD p m ml x u r (c+1))) from by
         have:=(aE.o.drewN n).set c (.int .i64 (K2:Nat));rw[CD,<-bO.o,UF]at this;rw[<-bO.o];exact this)
        have aK:=Aa (fun n=>(aE.o.drewN n).exSet (a:=w) (Nat.le_refl _) (aB.o.drewN n) c (.int .i64 (K2:Nat)));have G0:Ex w wr.drew:=aB.o.drewN 1;clear aE;go_upto_region 11 with fail
        go_region_law
          ((first
                      | (go_simp;go_at_call 106;(with_reducible refine(aG.o _ (aB.o.drewN _)).mono ?_);rintro e wx1⟨rfl,n1,rfl⟩)
                      | (go_simp;go_at_call 106;(with_reducible refine(aG.o _ G0).mono ?_);rintro e wx1⟨rfl,n1,rfl⟩)
                      | (go_simp;go_at_call 268;(with_reducible refine(aL.o _ (aB.o.drewN _)).mono ?_);rintro e wx2⟨rfl,n2,rfl⟩)))
        all_goals
         clear aG aL G0 bR bQ bJ bM aN bN d0 d1;go_wp2_with fail
         go_roundw
         case measure=>simp[intOf];omega
         case rel=>exact⟨c+1,ac,by go_num,Aa (aI.o _),Aa (aK.o _)⟩
      .obtain rfl:c=t:=by omega
       have aI:=Aa (show Bd wr w.heap.size 3 g c cap (iv (K (i+1))) from aA.o.icongr fun j hj=>by rw[Wb hj,bN.o]);have aB:=Aa aD.o;clear aA aD;go_wp2_with fail
       go_roundw
       case rel=>first|exact⟨i+1,ac,by go_num,aI,aB⟩|((repeat apply Exists.intro);exact⟨⟨i+1,ac,by go_num,aI,aB⟩,rfl⟩)
       case measure=>simp[intOf];omega
   .obtain rfl:i=n:=by omega
    have aE:=Aa aA.o;have aB:=Aa aD.o;have aZ:=Aa (Hy wr (.slice (some ⟨g,0,none⟩) t cap) t _ aA.o.sl (fun j=>K i j !=0) (fun w1 j u h1 hu=>by
     have hj:j<t:=by
      have:=(List.getElem?_eq_some_iff.1 hu).1;rw[Bm]at this;exact this
     rw[Dj hj]at hu;injection hu with hu;subst hu;exact Wc w1 (K i j)))
    clear aA aD;go_wp2_with fail
    refine aZ.o.mono ?_;rintro e w2⟨rfl,aO⟩;have aK:=Aa aO;clear aO;go_wp2_with fail
    go_ret2;exact⟨_,rfl,(aE.o.ex aK.o).isl,aB.o.trans aK.o⟩
end
theorem BF.other{w w':World}{base b2:Nat}{e2:TypeId}{s2 n:Nat}{cv pv pv':Value}{M:List (List Int)}{vals xs news:List Value}(h:BF w base cv M vals)(ha:Bt w w' b2 e2 s2 pv pv' n xs news)(hc:AT cv pv)(hv:∀u∈vals,AT u pv):
  BF w' base cv M vals/\AT cv pv'/\∀u∈vals,AT u pv':=by
 have hn:=h.len;have h0:=ha.row h.cvo hc;refine⟨⟨h0.1,fun i r u h1 h2=>(ha.row (h.row i r u h1 h2) (hv u (List.mem_of_getElem? h2))).1,h.apart⟩,h0.2,fun u hu=>?_⟩;obtain⟨i,hi,e⟩:=List.getElem_of_mem hu;exact(ha.row (h.row i (M[i]'ac) u (List.getElem?_eq_getElem _) au) (hv u hu)).2
structure NR(w1 wr:World)(E b:Nat)(M:List (List Int))(P:List Int)(rv pv:Value)(vals:List Value):Prop where
 c0:wr.cell? (E,0)=some (.pointer (some (b,0)))
 c1:wr.cell? (E,1)=some rv
 c2:wr.cell? (E,2)=some pv
 f1:wr.frozen? (E,1)=false
 f2:wr.frozen? (E,2)=false
 rows:BF wr (E+1) rv M vals
 plc:wr.ownsRow (E+1) 3 1 pv P.length (Ap P)
 ap:AT rv pv
 av:∀u∈vals,AT u pv
 lb:w1.heap.size<=E
 ex:Ex w1 wr
section
variable {w1 wr w':World} {E b:Nat} {M:List (List Int)} {P:List Int} {rv pv v' l:Value} {vals:List Value} {L:List Int} {x:Int}
theorem NR.later(h:NR w1 wr E b M P rv pv vals)(hx:Ex wr w'):NR w1 w' E b M P rv pv vals:=
 ⟨hx.cell h.c0,hx.cell h.c1,hx.cell h.c2,hx.frz h.c1 h.f1,hx.frz h.c2 h.f2,h.rows.ex hx,Ai h.plc hx,h.ap,h.av,h.lb,h.ex.trans hx⟩
theorem ER{w:World}{e:TypeId}{s n:Nat}{v:Value}{xs:List Value}(h:w.ownsRow (E+1) e s v n xs):v.ownBlock≠some E:=fun e=>by
 have:=(h.lt E e).1;omega
theorem NR.at1(h:NR w1 wr E b M P rv pv vals)(ha:Bt wr w' (E+1) 22 1 rv v' M.length vals [l]):w'.cell? (E,1)=some rv/\w'.frozen? (E,1)=false:=
 ⟨ha.cell h.c1 (fun e=>ER h.rows.cvo e.symm),ha.frz h.c1 h.f1 (fun e=>ER h.rows.cvo e.symm)⟩
theorem za1{P:Prop}(h:P:=by
 rw[Ag (by decide)];exact ha.cell h.c0 aA):P:=h
theorem NR.app1(h:NR w1 wr E b M P rv pv vals)(hl:wr.ownsRow (E+1) 3 1 l L.length (Ap L))(h1:AT l rv)(h2:AT l pv)(ha:Bt wr w' (E+1) 22 1 rv v' M.length vals [l]):
  NR w1 (w'.setCell (E,1) v') E b (M ++ [L]) P v' pv (vals ++ [l]):=by
 have aA:some E≠rv.ownBlock:=fun e=>ER h.rows.cvo e.symm;have hm:=h.rows.app hl h1 ha;have hr:=ha.row h.plc h.ap.symm;refine⟨?_,World.cell?_setCell_same _ _ _ (ha.cell h.c1 aA),?_,?_,?_,hm.setNe (a:=⟨E,1,none⟩) (by show E<E+1;omega) v',?_,hr.2.symm,?_,h.lb,(ha.ex h.ex (by have:=h.lb;omega)).setCell (p:=⟨E,1,none⟩) h.lb _⟩
 .exact za1
 .rw[Ag ae];exact ha.cell h.c2 aA
 .rw[Ax];exact ha.frz h.c1 h.f1 aA
 .rw[Ax];exact ha.frz h.c2 h.f2 aA
 .exact Ac (a:=⟨E,1,none⟩) hr.1 (ER h.plc) v'
 .intro u hu;rcases List.mem_append.1 hu with hu|hu
  .exact h.av u hu
  .simp at hu;subst hu;exact h2
theorem NR.at2(h:NR w1 wr E b M P rv pv vals)(ha:Bt wr w' (E+1) 3 1 pv v' P.length (Ap P) [.int .i64 x]):w'.cell? (E,2)=some pv/\w'.frozen? (E,2)=false:=
 ⟨ha.cell h.c2 (fun e=>ER h.plc e.symm),ha.frz h.c2 h.f2 (fun e=>ER h.plc e.symm)⟩
theorem NR.app2(h:NR w1 wr E b M P rv pv vals)(ha:Bt wr w' (E+1) 3 1 pv v' P.length (Ap P) [.int .i64 x]):
  NR w1 (w'.setCell (E,2) v') E b M (P ++ [x]) rv v' vals:=by
 have aA:some E≠pv.ownBlock:=fun e=>ER h.plc e.symm;obtain⟨hm,aC,aB⟩:=h.rows.other ha h.ap h.av;have ho:w'.ownsRow (E+1) 3 1 v' (P ++ [x]).length (Ap (P ++ [x])):=by
  have:=ha.own;rw[List.length_append,show Ap (P ++ [x])=Ap P ++ [.int .i64 x] from by unfold Ap;simp];exact this
 refine⟨?_,?_,World.cell?_setCell_same _ _ _ (ha.cell h.c2 aA),?_,?_,hm.setNe (a:=⟨E,2,none⟩) (by show E<E+1;omega) v',Ac (a:=⟨E,2,none⟩) ho (ER ho) v',aC,aB,h.lb,(ha.ex h.ex (by have:=h.lb;omega)).setCell (p:=⟨E,2,none⟩) h.lb _⟩
 .exact za1
 .rw[Ag ae];exact ha.cell h.c1 aA
 .rw[Ax];exact ha.frz h.c1 h.f1 aA
 .rw[Ax];exact ha.frz h.c2 h.f2 aA
theorem NR.at{t:Nat}{e:My}(h:NR w1 wr E b (Au t e.n e.a) (il e.n fun i=>(e.pl i:Int)) rv pv vals):Gp wr E b t e rv pv:=
 ⟨h.c0,h.c1,h.c2,h.rows.msl,Sl.own h.plc⟩
end
theorem NR.new(w1:World)(b:Nat):NR w1 (w1.alloc (.cells #[.pointer (some (b,0)),.slice none 0 0,.slice none 0 0] 285)) w1.heap.size b [] [] (.slice none 0 0) (.slice none 0 0) [] where
 c0:=ag
 c1:=ag
 c2:=ag
 f1:=ag
 f2:=ag
 rows:=BF.nil _ _
 plc:=World.ownsRow_nil _ _ _ _
 ap:=AT.nil _
 av:=fun u h=>(List.not_mem_nil h).elim
 lb:=Nat.le_refl _
 ex:=(Ex.refl _).alloc _
theorem AI(w:World)(o:Obj):Ex w (w.alloc o):=(Ex.refl w).alloc o
theorem XI{w w':World}{o:Obj}{base:Nat}{e:TypeId}{size:Nat}{v v':Value}{n:Nat}{xs news:List Value}(aB:w.ownsRow base e size v n xs)(aA:w'.ownsRow base e size v' (n+1) (xs++news))
  (hg:(w.alloc o).grownBy w' v.ownBlock) (ha:v'.ownBlock=v.ownBlock∨v'.ownBlock=some (w.alloc o).heap.size):Bt w w' base e size v v' n xs news:=
 ⟨aA,⟨o,hg⟩,by simpa using ha,aB⟩
theorem zaI{P:Prop}(h:P:=by
 exact List.map_congr_left fun i hi=>by
  have:=List.mem_range.1 hi;rw[Ae _ _ (by omega)]):P:=h
theorem zcW{P:Prop}(h:P:=by
 rw[List.range_succ,List.map_append]
 congr 1
 .exact zaI
 .simp[Ab]):P:=h
theorem YZ{p m:Nat}{ml:List Int}{t:Nat}{e:My}{r:Nat->Int}{k:Nat}(h:MK t (e.red p m ml r)=k):
  Au t (Gz p m ml t e r).n (Gz p m ml t e r).a=Au t e.n e.a ++ [il t (BT p m ml (ivz p m ml (Av (p^m) (e.red p m ml r k))) (e.red p m ml r))]/\(il (Gz p m ml t e r).n fun i=>((Gz p m ml t e r).pl i:Int))=(il e.n fun i=>(e.pl i:Int)) ++ [(k:Int)]:=by
 unfold Gz;rw[if_pos ac,h];simp only[Int.toNat_natCast];constructor
 .unfold Au;exact zcW
 .unfold il;exact zcW
theorem Y4{p m:Nat}{ml:List Int}{t:Nat}{e:My}{r:Nat->Int}(h:MK t (e.red p m ml r)=-1):Gz p m ml t e r=e:=by
 unfold Gz;rw[if_neg ac]
section
variable {b p m x0:Nat} {ml:List Int}
theorem KM(w:World)(hg:Bj w b p m ml x0)(aZ:1<=x0)(aY:x0<p^m)(A:Nat)(hA:w.cell? (A,0)=some (.pointer (some (b,0))))(t R:Nat)(ht:t<=1000)(hR:R<=1000)(a:Nat->Nat->Int)(v:Value)(hv:B9 w v (Au t R a)):
  Calls Tryz.prog 225 #[.pointer (some (A,0)),v] w fun r w'=>∃E rv pv,r= .returned (.pointer (some ⟨E,0,none⟩))/\Gp w' E b t (Ht p m ml t a R) rv pv/\Ex w w':=by
 obtain⟨ra,rc,rfl,r1,r2,r3⟩:=hv.open;rw[AL]at r1 r3 ⊢;unfold maxLen at r2;obtain⟨R3,HA,HG,cU,cQ,cT,HQ⟩:=OK r3 hA hg (fun (w1:World) (h1:Ex w w1) (y:Int)=>Um w1 (hg.ex h1) aZ aY y) (fun (w1:World) (h1:Ex w w1) (c:Int) (f:Nat->Int) (uv:Value) (hu:Aj w1 uv (il t f))=>NN w1 (hg.ex h1) t f c uv hu ht) (fun (w1:World) (h1:Ex w w1) (E:Nat) (e:My) (rv pv:Value) (hE:Gp w1 E b t e rv pv) (cK:∀i,i<e.n->e.pl i<t) (f:Nat->Int) (vv:Value) (hu:Aj w1 vv (il t f))=>K9 w1 (hg.ex h1) E t ht e rv pv hE cK f vv hu) (show 1<=p^m from ac);clear hv r3 hg;go_enter Tryz.func225,Tryz.ntmps225
 go_wp2_with fail
 obtain⟨E,hE⟩:=nA w.heap.size;have bI:=Aa (NR.new w b)
 try simp only[hE]
 rw[hE]at bI;have HEW:=Aa hE;generalize w.alloc (.cells #[.pointer (some ⟨b,0,none⟩),.slice none 0 0,.slice none 0 0] 285)=w2 at *;clear hE
 go_loopw [20] (fun i' wr=>∃(k:Nat) (rv pv:Value) (vals:List Value),k<=R/\i'= .int .i64 k/\Hia (NR w wr E b (Au t (Ht p m ml t a k).n (Ht p m ml t a k).a) (il (Ht p m ml t a k).n fun i=>((Ht p m ml t a k).pl i:Int)) rv pv vals)) (fun i' _=>R-(intOf i').toNat)
 case atStart=>exact⟨0,_,_,_,ac,rfl,bI⟩
 case round=>
  clear bI;obtain⟨k,rv,pv,vals,hk,rfl,BC⟩:=hrel;by_cases hkR:k<R
  .obtain⟨rb,ro,rfl,bW⟩:=R3.o ac;obtain⟨uv,bV,bU⟩:=bW k _ (Dq hkR);have cu:=BC.o.ex.cell bV;have i1:(0:Int)<=(k:Int):=by omega
   have i2:(k:Int)<(R:Int):=ac;obtain⟨aL,aJ,cD,aR⟩:=Eq BC.o (show Ht p m ml t a (k+1)=Gz p m ml t (Ht p m ml t a k) (a k) from rfl) (spn_n (p:=p) (m:=m) (ml:=ml) t a k) (cT.o wr BC.o.ex E (Ht p m ml t a k) rv pv BC.o.at (KL t a k) (a k) uv (bU.ex BC.o.ex));obtain⟨e,he⟩:=nA (Ht p m ml t a k);rw[he]at aL aJ aR cD;obtain⟨z,hz⟩:=nA (MK t (e.red p m ml (a k)));have aX:=WM t (e.red p m ml (a k));rw[hz]at aR aX;have aE:=Aa (fun k' (h:z=(k':Nat))=>YZ (p:=p) (m:=m) (ml:=ml) (t:=t) (e:=e) (r:=a k) (hz.trans h));have aV:=Aa (fun (h:z=-1)=>Y4 (p:=p) (m:=m) (ml:=ml) (t:=t) (e:=e) (r:=a k) (hz.trans h));obtain⟨f,hf⟩:=nA (e.red p m ml (a k));rw[hf]at aR aE;rw[<-aJ.o]at aE aV;clear bW bV bU BC he hz hf aJ;go_wp2_with fail
   refine aR.o.mono ?_;rintro e' w3⟨v3,rfl,bC,bS⟩;have bF:=Aa bC;have aP:=Aa bS;clear bS aR;obtain⟨va,vc,rfl,-,v2,v3⟩:=bC.open;rw[AJ]at v3 bF ⊢;clear bC;by_cases hz0:0<=z
   .obtain⟨k',rfl⟩:=Int.eq_ofNat_of_zero_le hz0;have cL:k'<t:=by omega
    obtain⟨bR,bQ⟩:=aE.o k' rfl;obtain⟨vb,vo,rfl,bT⟩:=v3 ac;have cv:=bT k' _ (AQ cL f);have cM:decide ((0:Int)<=(k':Int))=true:=ag;have ca:=(aL.o.ex.trans aP.o).cell HA.o;have j1:(0:Int)<=(k':Int):=ac;have j2:(k':Int)<(t:Int):=ac;have bJ:=Aa (fun (w1:World) (h1:Ex w w1)=>cU.o w1 h1 (f k'));obtain⟨IV,aU,aN⟩:∃c:Nat,(∃e2,RW p m ml (Av (p^m) (f k'))= .tuple #[(c:Nat),e2])/\Av (p^m) (c:Int)=ivz p m ml (Av (p^m) (f k')):=by
     unfold RW ivz;by_cases h0:Av (p^m) (f k')=0
     .rw[if_pos h0,if_pos h0];exact⟨0,⟨_,rfl⟩,CM _⟩
     .rw[if_neg h0,if_neg h0];exact⟨_,⟨_,rfl⟩,AA (Kk HQ.o _)⟩
    obtain⟨e2,aU⟩:=aU;rw[aU]at bJ;have cB:=Aa bR;have cN:=Aa bQ;rw[<-aN]at cB;have aB:=Aa (aL.o.later aP.o);have cW:=Aa ca;have cV:=Aa cv;clear hz0 aU aN v3 bT aX bR bQ aE aV aL aP;go_wp2_with fail
    go_region_held3 (fun w'=>w'.cell? (A,0)=some (.pointer (some (b,0)))/\w'.cell? (vb,vo+k')=some (.int .i64 (f k')))
     (first|exact⟨cW.o,cV.o⟩)
     (first|(go_at_call 250;(with_reducible refine(bJ.o _ aB.o.ex.drew).mono ?_);rintro e w4⟨rfl,n4,rfl⟩))
    obtain⟨w4,bA⟩:=nA (w3.drewN (1+n4));have aO:=Aa (show Ex w3 w4 from by rw[<-bA];exact(Ex.refl w3).drewN _)
    try simp only[bA]
    clear bA ca cv bJ;have aA:=Aa (aB.o.later aO.o);have cO:=Aa (bF.o.ex aO.o);have ca:=(aA.o.ex).cell HA.o;have t1:=aA.o.c1;have T1F:=Aa aA.o.f1;obtain⟨qa,qc,cI⟩:=Ad aA.o.rows.cvo;subst cI;have aJ:=Aa (fun (w1:World) (h1:Ex w4 w1)=>cQ.o w1 (aA.o.ex.trans h1) (IV:Int) f _ (by
     have:=cO.o.ex h1;exact this))
    have G0:Ex w4 w4.drew:=(Ex.refl w4).drew;have bD:(Au t e.n e.a).length=e.n:=AL _ _ _;rw[bD]at t1;have aS:=Aa bD;have aF:=Aa (show e.n<=k from cD.o);have bG:=Aa t1;clear aB bF bD;go_upto_region 8 with fail
    go_cut [10] from 44 to 70 (fun s10 wx=>∃bO bN aG,Hia (NR w wx E b (Au t e.n e.a ++ [il t (BT p m ml (Av (p^m) (IV:Int)) f)]) (il e.n fun i=>(e.pl i:Int)) (.slice bO (e.n+1) bN) pv aG))
    case first=>
     have aI:=Aa G0
     go_region_law
      ((first
              | (refine Cq br _ _ _ br (E+1) 22 (.slice none 0 0) 1 24 Tryz.underlying37 BG rfl ae (.slice qa e.n qc) e.n vals br (by have h:=Ai aA.o.rows.cvo ((aI.o.trans aK).trans (AI w5 (.cells #[.slice (some ⟨g5,0,none⟩) t t] 22)));rw[aS.o]at h;exact h) _ 1 [.slice (some ⟨g5,0,none⟩) t t] br (Sl.own (Fy w5 (.slice (some ⟨g5,0,none⟩) t t) 22)) aj (by have:=aF.o;unfold maxLen;omega) (by have:=aF.o;omega) (by have:=cS.o;simp;omega) ?_;intro v8 w8 aC bZ cA;have bK:=Aa (XI (by have h:=Ai aA.o.rows.cvo (aI.o.trans aK);rw[aS.o]at h;exact h) aC bZ cA);obtain⟨bM,aW⟩:=(aA.o.later (aI.o.trans aK)).at1 (by rw[aS.o];exact bK.o);rw[aS.o]at bM;obtain⟨cG,cF,bB⟩:=Ad aC;subst bB)
              | (go_simp;refine(aJ.o _ aI.o).mono ?_;rintro e w5⟨g5,rfl,aT,aK⟩;have t1:=aK.cell (show w4.drew.cell? (E,1)=some (.slice qa e.n qc) from bG.o);have cH:=(AI w5 (.cells #[.slice (some ⟨g5,0,none⟩) t t] 22)).cell t1;have cS:=Aa (show E+1<=w5.heap.size from by have h1:=aT.lt;have h2:=World.block_lt_of_cell? _ _ t1;exact h2);go_simp)))
     all_goals
      have aM:=aI.o.trans aK;have aQ:=aA.o.later aM;have bY:w5.ownsRow (E+1) 3 1 (.slice (some ⟨g5,0,none⟩) t t) (il t (BT p m ml (Av (p^m) (IV:Int)) f)).length (Ap (il t (BT p m ml (Av (p^m) (IV:Int)) f))):=by
       rw[AJ,Cw];exact Bl aT (World.block_lt_of_cell? _ _ (aI.o.cell bG.o))
      have bE:∀v2 (e2:TypeId) (n2:Nat) bL,w4.ownsRow (E+1) e2 1 v2 n2 bL->AT (.slice (some ⟨g5,0,none⟩) t t) v2:=fun v2 e2 n2 bL h=>by
       right;show some g5≠_
       intro e;have h1:=(h.lt g5 e.symm).2;have h2:=aT.lt.1;have h3:=aI.o.size;omega
      have cR:=Aa (aQ.app1 bY (bE _ _ _ _ aA.o.rows.cvo) (bE _ _ _ _ aA.o.plc) (by rw[aS.o];exact bK.o));clear aQ bY bE aM bM aW t1 cH bK aC bZ cA aT aK aJ;go_wp2_with fail
      go_meet
      exact⟨_,_,_,cR⟩
    case rest=>
     obtain⟨bO,bN,aG,hc⟩:=hcut;have t2:=hc.o.c2;have T2F:=Aa hc.o.f2;obtain⟨pa,pc,cJ⟩:=Ad hc.o.plc;subst cJ;rw[AJ]at t2;have cP:=Aa (show E+1<=wc.heap.size from World.block_lt_of_cell? _ _ t2);have HC:=Aa hc.o;have cE:=Aa (AJ e.n fun i=>(e.pl i:Int));have cC:=Aa (show wc.ownsRow (E+1) 3 1 (.slice pa e.n pc) e.n (Ap (il e.n fun i=>(e.pl i:Int))) from by
      have h:=hc.o.plc;rw[AJ]at h;exact h)
     clear hc t1 ca G0 bG aJ aA;go_wp2_with (at_builtin;refine Am _ rfl _ _ 22 rfl (E+1) 3 (.int .i64 0) 1 8 Tryz.underlying22 Az rfl ae _ e.n _ rfl cC.o [.int .i64 k'] 3 _ rfl ag rfl aj (by have:=aF.o;unfold maxLen;omega) (by have:=aF.o;omega) cP.o ?_)
     intro v8 w8 aH;have aD:Bt wc w8 (E+1) 3 1 (.slice pa (il e.n fun i=>(e.pl i:Int)).length pc) v8 (il e.n fun i=>(e.pl i:Int)).length (Ap (il e.n fun i=>(e.pl i:Int))) [.int .i64 k']:=by
      rw[cE.o];exact aH
     obtain⟨aW,t3y⟩:=HC.o.at2 aD;rw[cE.o]at aW;have bH:=Aa (HC.o.app2 aD);rw[<-cB.o,<-cN.o]at bH;obtain⟨cG,cF,bB⟩:=Ad aH.own;subst bB;clear aH aD HC cC;go_wp2_with fail
     go_roundw
     case rel=>first|exact⟨k+1,_,_,_,ac,by go_num,bH⟩|((repeat apply Exists.intro);exact⟨⟨k+1,_,_,_,ac,by go_num,bH⟩,rfl⟩)
     case measure=>simp[intOf];omega
   .have bP:z=-1:=by omega
    have cM:decide ((0:Int)<=z)=false:=aq;have bX:=aV.o bP;have aB:=Aa (aL.o.later aP.o);rw[<-bX]at aB;clear hz0 bP aX bX aE aV aL aP v3;go_wp2_with fail
    go_roundw
    case rel=>exact⟨k+1,_,_,_,ac,by go_num,aB⟩
    case measure=>simp[intOf];omega
  .obtain rfl:k=R:=by omega
   go_wp2_with fail
   go_ret;exact⟨E,rv,pv,rfl,BC.o.at,BC.o.ex⟩
end
end Go.Proofs.YtehieobniamagaaGreat
