/- Walks of tower.prime, tower.Frobenius, the field's Sub, Order, Same, Check. -/
import Derived.Test.YtehieobniamagaaGreatZi10
namespace Go.Proofs.YtehieobniamagaaGreat
open Nat renaming pow_pos→ϕ,le_refl→ζ
open Int renaming tmod_eq_emod_of_nonneg→Φ,emod_eq_of_lt→ζd
open List renaming range→ξ,mem_map→ψ,mem_range→κ,mem_cons_self→Θ,mem_cons_of_mem→ω,getElem?_eq_getElem→γ,getD_eq_getElem?_getD→δ,getElem?_eq_some_iff→θ
open Go.World renaming cell?_alloc_lt→ζr,cell?_setCell_same→φ,block_lt_of_cell?→η
open Go.RowKit
set_option linter.all false
set_option maxRecDepth 100000
set_option maxHeartbeats 16000000
def TT(p m:Nat)(low:Vc)(x:Nat):Nat->Nat
 | 0=>x
 | k+1=>BN p m low (TT p m low x k) p
theorem OJ{p m:Nat}{low:Vc}(hp:2<=p)(hm:1<=m){x:Nat}(hx:x<p^m):∀k,TT p m low x k<p^m
 | 0=>hx
 | k+1=>Dq hp hm _ _
section
variable {b p m x0:Nat} {ml:List Int}
theorem UW(w:World)(hg:Bh w b p m ml x0):
  Calls Tryz.prog 161 #[(b,0)] w fun r w'=>r= .returned (.tuple #[p,m])/\Ex w w':=by
 have HF:=Aa (VI w hg);go_enter Tryz.func161,Tryz.ntmps161
 go_wp2_with fail
 refine HF.o.mono ?_;rintro e w1⟨v,rfl,hv,hx⟩;obtain⟨va,vc,rfl,_,_,_⟩:=hv.open;have d0:(w1.alloc (.cells #[p,m,(va,ml.length,vc)] 24)).cell? (w1.heap.size,0)=some (.int .i64 p):=ag;have d1:(w1.alloc (.cells #[p,m,(va,ml.length,vc)] 24)).cell? (w1.heap.size,1)=some (.int .i64 m):=ag;have HX:=Aa (hx.alloc (.cells #[p,m,(va,ml.length,vc)] 24));clear hx hv;go_wp2_with fail
 obtain⟨q,hq⟩:=nA w1.heap.size;rw[hq]at d0 d1
 try simp only[hq]
 clear hq;generalize w1.alloc (.cells #[p,m,(va,ml.length,vc)] 24)=w2 at *
 go_quiet (fail)
 go_wp2_with fail
 go_ret2;exact⟨rfl,HX.o.drewN _⟩
theorem MN(w:World)(hg:Bh w b p m ml x0)(x:Int)(k:Nat)(hk:k<m):
  Calls Tryz.prog 107 #[(b,0),x,k] w fun r w'=>r= .returned (.int .i64 (TT p m (lw ml) (Av (p^m) x) k:Nat))/\Ex w w':=by
 have HG:=Aa hg;have HP:=Aa (UW w hg);have p2:=hg.sh.p2;have m1:=hg.sh.m1;have m8:=hg.sh.m8;have hp256:=hg.sh.p256;have aD:0<p^m:=ϕ ac;have T1:(k:Int).tmod (m:Int)=(k:Int):=by
  rw[Φ ac];exact ζd ac ac
 have T2:((k:Int)+(m:Int)).tmod (m:Int)=(k:Int):=by
  rw[Φ ac,Int.add_emod_right];exact ζd ac ac
 have i4:¬m=0:=ac;have i5:¬((m:Int)=0):=ac;have i1:IntKind.i64.wrap ((k:Int)+(m:Int))=(k:Int)+(m:Int):=IntWalk.i64_in _ ac;clear hg;go_enter Tryz.func107,Tryz.ntmps107
 go_wp2_with fail
 refine HP.o.mono ?_;rintro e w1⟨rfl,hx⟩;have HX:=Aa hx;clear hx;go_wp2_with fail
 go_loopw [1,21] (fun x' j' wr=>∃(j:Nat) (y:Int),j<=k/\j'= .int .i64 j/\x'= .int .i64 y/\Hia (Av (p^m) y=TT p m (lw ml) (Av (p^m) x) j)/\Hia (Ex w wr)) (fun _ j' _=>k-(intOf j').toNat)
 case atStart=>exact⟨0,x,ac,rfl,rfl,Aa rfl,HX⟩
 case round=>
  obtain⟨j,y,hj,rfl,rfl,hy,aB⟩:=hrel;by_cases hjk:j<k
  .have aA:=Pow_any wr (HG.o.ex aB.o) y p ac ac;rw[hy.o]at aA;obtain⟨z,hz⟩:=nA (BN p m (lw ml) (TT p m (lw ml) (Av (p^m) x) j) p);have HZ:Hia (Av (p^m) ((z:Nat):Int)=TT p m (lw ml) (Av (p^m) x) (j+1)):=Aa (by
    rw[<-hz,AE (Dq p2 m1 _ _)];rfl)
   rw[hz]at aA;have aE:=Aa aA;clear aA hz hy;go_wp2_with fail
   refine aE.o.mono ?_;rintro e w2⟨rfl,n2,rfl⟩;go_wp2_with fail
   go_roundw
   case rel=>exact⟨j+1,_,ac,by go_num,rfl,HZ,Aa (aB.o.drewN _)⟩
   case measure=>exact Ωm
  .obtain rfl:j=k:=by omega
   have aC:=Km wr (HG.o.ex aB.o) y 0;rw[hy.o,CN,Ce ac (OJ p2 m1 (Cb aD _) _)]at aC;have aF:=Aa aC;clear aC;go_wp2_with fail
   refine aF.o.mono ?_;rintro e w2⟨rfl,n2,rfl⟩;go_wp2_with fail
   go_ret;exact⟨rfl,aB.o.drewN _⟩
theorem Sub_any(w:World)(hg:Bh w b p m ml x0)(x y:Int):
  Calls Tryz.prog 268 #[(b,0),x,y] w (Qt w (.int .i64 (AK p m (Av (p^m) x) (CL p m (Av (p^m) y)):Nat))):=by
 have p2:=hg.sh.p2;have HN:=Aa (O9 w hg y);have ha:=fun n=>Km (w.drewN n) (hg.drewN n) x ((CL p m (Av (p^m) y):Nat):Int);rw[show Av (p^m) ((CL p m (Av (p^m) y):Nat):Int)=CL p m (Av (p^m) y) from AE (Dk ac _)]at ha;have HA:=Aa ha;clear ha hg;go_enter Tryz.func268,Tryz.ntmps268
 go_wp2_with fail
 refine HN.o.mono ?_;rintro e w1⟨rfl,n1,rfl⟩;go_wp2_with fail
 refine(HA.o n1).mono ?_;rintro e w2⟨rfl,n2,rfl⟩;go_wp2_with fail
 go_ret;exact⟨rfl,_,rfl⟩
theorem zdj{P:Prop}(h:P:=by
 go_wp2_with fail
 go_ret;exact⟨rfl,rfl⟩):P:=h
theorem Cv(w:World)(hg:Bh w b p m ml x0):
  Calls Tryz.prog 54 #[(b,0)] w fun r w'=>r= .returned (.int .i64 ((p^m:Nat):Int))/\w=w':=by
 have c3:=hg.c3;generalize p^m=q at *;clear hg;go_enter Tryz.func54,Tryz.ntmps54
 exact zdj
end
section
variable {p m:Nat} {ml:List Int} {N R:Nat}
def ks(p m:Nat)(g:Nat->Nat):Nat->Nat
 | 0=>0
 | n+1=>AK p m (ks p m g n) (g n)
theorem ks_lt(hp:1<=p)(g:Nat->Nat):∀n,ks p m g n<p^m
 | 0=>ϕ (by omega)
 | n+1=>GT hp _ _
theorem Gs{g h:Nat->Nat}:∀n,(∀j,j<n->g j=h j)->ks p m g n=ks p m h n
 | 0,_=>rfl
 | n+1,e=>by
  show AK p m _ _=AK p m _ _
  rw[Gs n fun j hj=>e j (by omega),e n (by omega)]
theorem Hj(f x:Nat->Int):dt p m ml N f x=ks p m (fun j=>Am p m (lw ml) (Av (p^m) (f j)) (Av (p^m) (x j))) N:=by
 have aA:∀n,n<=N->Sv p m ml N f x n=ks p m (fun j=>Am p m (lw ml) (Av (p^m) (f j)) (Av (p^m) (x j))) n:=fun n=>by
  induction n with
  | zero=>intro _;rw[DC];rfl
  | succ n ih=>
   intro hn;rw[DE _ _ ac,ih ac];rfl
 rw[<-Eu,aA N (ζ _)]
def Oo(p m:Nat)(g:Nat->Nat)(l:List Nat):Nat:=l.foldr (fun j s=>AK p m s (g j)) 0
theorem ksL_lt(hp:1<=p)(g:Nat->Nat):∀l,Oo p m g l<p^m
 | []=>ϕ (by omega)
 | j :: l=>GT hp _ _
theorem TE(hp:1<=p)(g:Nat->Nat):∀l k,Oo p m g (l++k)=AK p m (Oo p m g l) (Oo p m g k)
 | [],k=>by
  show Oo p m g k=AK p m 0 _
  rw[DQ hp (ksL_lt hp g k)]
 | j :: l,k=>by
  show AK p m (Oo p m g (l++k)) (g j)=AK p m (AK p m (Oo p m g l) (g j)) _
  rw[TE hp g l k,BK hp,BK hp,DV (Oo p m g k)]
theorem Jf(hp:1<=p){g:Nat->Nat}(hg:∀j,g j<p^m):∀n,Oo p m g (ξ n)=ks p m g n
 | 0=>rfl
 | n+1=>by
  rw[List.range_succ,TE hp,Jf hp hg n];show AK p m _ (AK p m 0 (g n))=AK p m _ _
  rw[DQ hp (hg n)]
theorem W9(hp:1<=p)(g:Nat->Nat){l k:List Nat}(h:l.Perm k):Oo p m g l=Oo p m g k:=by
 induction h with
 | nil=>rfl
 | @cons x l1 l2 _ ih=>show AK p m (Oo p m g l1) (g x)=AK p m (Oo p m g l2) (g x);rw[ih]
 | swap x y l=>
  show AK p m (AK p m (Oo p m g l) (g x)) (g y)=AK p m (AK p m (Oo p m g l) (g y)) (g x)
  rw[BK hp,BK hp,DV (g x)]
 | trans _ _ i1 i2=>rw[i1,i2]
theorem TD(g:Nat->Nat)(f:Nat->Nat):∀l:List Nat,Oo p m g (l.map f)=Oo p m (fun j=>g (f j)) l
 | []=>rfl
 | j :: l=>by show AK p m (Oo p m g (l.map f)) (g (f j))=AK p m (Oo p m (fun j=>g (f j)) l) (g (f j));rw[TD g f l]
structure FX(N:Nat)(π:Nat->Nat):Prop where
 lt:∀i,i<N->π i<N
 inj:∀i j,i<N->j<N->π i=π j->i=j
theorem FX.perm{π:Nat->Nat}(h:FX N π):((ξ N).map π).Perm (ξ N):=by
 have aB:((ξ N).map π).Nodup:=Dj fun i j hj aC e=>by
  have:=h.inj i j ac hj e;omega
 have aA:∀x,x<N->x∈(ξ N).map π:=fun x hx=>by
  have:=RM N (((ξ N).map π).map (·+ 1)) (by
   rw[List.map_map];exact Dj fun i j hj aC e=>by
    have e:π i+1=π j+1:=e;have:=h.inj i j ac hj ac;omega) ag (fun y hy=>by
   obtain⟨z,hz,rfl⟩:=ψ.1 hy;obtain⟨i,hi,rfl⟩:=ψ.1 hz;have:=h.lt i (κ.1 hi);omega) (x+1) ac ac
  obtain⟨z,hz,e⟩:=ψ.1 this;have:z=x:=by have e:z+1=x+1:=e;omega
  rw[<-this];exact hz
 refine(List.perm_ext_iff_of_nodup aB List.nodup_range).2 fun x=>⟨fun hx=>?_,fun hx=>aA x (κ.1 hx)⟩;obtain⟨i,hi,rfl⟩:=ψ.1 hx;exact κ.2 (h.lt i (κ.1 hi))
theorem FX.surj{π:Nat->Nat}(h:FX N π){j:Nat}(hj:j<N):∃i,i<N/\π i=j:=by
 have:=h.perm.mem_iff.2 (κ.2 hj);obtain⟨i,hi,e⟩:=ψ.1 this;exact⟨i,κ.1 hi,e⟩
theorem FX.sum(hp:1<=p){π:Nat->Nat}(h:FX N π){g:Nat->Nat}(hg:∀j,g j<p^m):ks p m (fun i=>g (π i)) N=ks p m g N:=by
 rw[<-Jf hp hg,<-Jf hp fun i=>hg (π i),<-TD,W9 hp g h.perm]
def plc(π:Nat->Nat)(v:Nat->Int):Nat->Nat->Int
 | 0=>fun _=>0
 | k+1=>Ay (plc π v k) (π k) (v k)
theorem KW{π:Nat->Nat}(h:FX N π)(v:Nat->Int):∀k,k<=N->∀i,i<k->plc π v k (π i)=v i
 | 0,_,i,hi=>by omega
 | k+1,hk,i,hi=>by
  show Ay (plc π v k) (π k) (v k) (π i)=v i
  by_cases e:i=k
  .subst e;exact Ab _ _ _
  .rw[Ac _ _ fun e2=>e (h.inj i k (by omega) (by omega) e2)];exact KW h v k (by omega) i (by omega)
theorem OR(hp:1<=p){π:Nat->Nat}(h:FX N π)(v x:Nat->Int):dt p m ml N (plc π v N) x=dt p m ml N v (fun i=>x (π i)):=by
 rw[Hj,Hj,<-h.sum hp fun j=>A7 hp _ _];exact Gs N fun i hi=>by rw[KW h v N (ζ _) i hi]
end
def Ia(p m:Nat)(ml:List Int)(N R:Nat)(a a':Nat->Nat->Int)(piv:List Nat):Prop:=
 ∃c,c<=N/\PV p m R N a' piv c/\(piv.length=R∨c=N)/\∀x,B9 p m ml N R a' x↔B9 p m ml N R a x
theorem zbN{P:Prop}(h:P:=by
 go_wp2_with fail
 go_roundw
 case rel=>exact⟨i+1,aU,aR,a4,by omega,by go_num,aD,cW,aZ,aJ,aG,aL⟩
 case measure=>exact Ωm):P:=h
theorem zcm{P:Prop}(h:P:=by
 go_wp2_with fail
 go_ret2;exact⟨piv,_,_,_,_,_,rfl,eB.o,HE.o,dY.o,dQ.o,dW.o⟩):P:=h
theorem XP{p m:Nat}{ml:List Int}{b x0:Nat}(w0 w:World)(hg:Bh w0 b p m ml x0)(dI:1<=x0)(dH:x0<p^m)(aX:Ex w0 w){base g R N:Nat}{blk cap:Nat->Nat}{a:Nat->Nat->Int}(h:EM w base g R N blk cap a [])(hb:w0.heap.size<=base)(hN:N<=256)(hR:R<=256)(cF:Ra p m R N a):
  Calls Tryz.prog 203 #[(b,0),.slice (some (g,0)) R R,N,()] w fun r w'=>∃piv pv bM bR bO a',r= .returned (.tuple #[pv,.int .i64 bM])/\EM w' base g R N bR bO a' []/\Ia p m ml N R a a' piv/\Ak w' pv (pI piv)/\Ex w0 w'/\∀B,pv.ownBlock=some B->base<=B:=by
 have p2:=hg.sh.p2;have m1:=hg.sh.m1;have HG:=Aa hg;have HF:=Aa (hg.isF dI dH);have eS:=Aa (show 1<=x0/\x0<p^m from⟨dI,dH⟩);obtain⟨B4,cB⟩:=nA w.heap.size;have h1:=(h.box (.cells #[(b,0)] 97)).box (.cells #[.slice (some (g,0)) R R] 37);have h2:=h1.box (.cells #[()] 37);have e4:((w.alloc (.cells #[(b,0)] 97)).alloc (.cells #[.slice (some (g,0)) R R] 37)).heap.size=B4+1+1:=by simp[cB]
 have e5:(w.alloc (.cells #[(b,0)] 97)).heap.size=B4+1:=by simp[cB]
 rw[e4,e5,cB]at h2;have eU:Hia (EB w0 (((w.alloc (.cells #[(b,0)] 97)).alloc (.cells #[.slice (some (g,0)) R R] 37)).alloc (.cells #[()] 37)) base g R N blk cap a (AV (.slice none 0 0) B4 (B4+1) (B4+1+1)) B4 (B4+1) (B4+1+1) b (.slice none 0 0) []):=by
  refine Aa ⟨h2.less fun B hB=>?_,by unfold AV;simp,by unfold AV;simp,by unfold AV;simp,?_,?_,?_,World.ownsRow_nil _ _ _ _,fun B hB=>(by cases hB),((aX.alloc _).alloc _).alloc _,hb⟩
  .unfold AV at hB;simp[Value.ownBlock]at hB;rcases hB with rfl|rfl|rfl <;> simp
  .rw[ζr _ _ _ (by rw[e4];show B4<_;omega),ζr _ _ _ (by rw[e5];show B4<_;omega)];exact A5 _ _ _ cB
  .rw[ζr _ _ _ (by rw[e4];show B4+1<_;omega)];exact A5 _ _ _ e5
  .exact A5 _ _ _ e4
 have fK:=Aa cF;have eD:Hia (w0.heap.size<=B4):=Aa (by have:=aX.size;omega);clear h1 h2 h cF hg dI dH hb aX;go_enter Tryz.func203,Tryz.ntmps203
 go_wp2_with fail
 try simp only[cB,e5,e4]
 generalize (((w.alloc (.cells #[(b,0)] 97)).alloc (.cells #[.slice (some (g,0)) R R] 37)).alloc (.cells #[()] 37))=w3 at *;have eN:Hia (PV p m R N a [] 0):=Aa (PV.init fK.o);have eL:Hia (∀x,B9 p m ml N R a x↔B9 p m ml N R a x):=Aa (fun x=>Iff.rfl);clear e4 e5 cB
 go_loopw [10,12,13] (fun d' pv c' wr=>∃(c:Nat) (piv:List Nat) (bM:Int) (bR bO:Nat->Nat) (a':Nat->Nat->Int),c<=N/\c'= .int .i64 c/\d'= .int .i64 bM/\Hia (EB w0 wr base g R N bR bO a' (AV pv B4 (B4+1) (B4+1+1)) B4 (B4+1) (B4+1+1) b pv piv)/\Hia (PV p m R N a' piv c)/\Hia (∀x,B9 p m ml N R a' x↔B9 p m ml N R a x)) (fun _ _ c' _=>N-(intOf c').toNat)
 case atStart=>exact⟨0, [],1,blk,cap,a,ac,rfl,rfl,eU,eN,eL⟩
 case round=>
  clear eU eN eL;obtain⟨c,piv,bM,bQ,bN,a1,hc,rfl,rfl,aA,cZ,aY⟩:=hrel;obtain⟨pa,pc,dK⟩:=Ad aA.o.pvo;subst dK;have c5:=aA.o.c5;have hple:=cZ.o.le;have cV:=Aa (show(piv.length=R∨c=N)->Ia p m ml N R a a1 piv from fun h=>⟨c,hc,cZ.o,h,aY.o⟩);have eB:=Aa (aA.o.em.less (bvs:= []) (fun B hB=>by cases hB));have dY:Hia (Ak wr (.slice pa piv.length pc) (pI piv)):=Aa (by
   have:=Sl.own aA.o.pvo;unfold Ak;rw[RN];exact this)
  by_cases hcN:c<N
  .have b1:decide ((c:Int)<(N:Int))=true:=by simp;omega
   have b2:decide (c<N)=true:=aq;have b2':(c:Int)<(N:Int):=ac;by_cases hpR:piv.length<R
   .have b3:decide ((piv.length:Int)<(R:Int))=true:=by simp;omega
    have b4:decide (piv.length<R)=true:=aq;clear cV eB dY;obtain⟨s,hs⟩:=nA piv.length;have HS:=Aa hs;rw[hs]at hpR b3 b4 aA ⊢;clear hs;obtain⟨Q,hQ⟩:=nA wr.heap.size;have cK:(wr.alloc (.cells #[s] 3)).heap.size=Q+1:=by simp[hQ]
    have bB:=aA.o.box (.cells #[s] 3);have aO:=bB.box (.cells #[s] 3);rw[cK,hQ]at aO;have aD:((wr.alloc (.cells #[s] 3)).alloc (.cells #[s] 3)).cell? (Q,0)=some (.int .i64 s):=by
     rw[ζr _ _ _ (by rw[cK];show Q<_;omega)];exact A5 _ _ _ hQ
    have bP:((wr.alloc (.cells #[s] 3)).alloc (.cells #[s] 3)).cell? (Q+1,0)=some (.int .i64 s):=A5 _ _ _ cK;have cC:((wr.alloc (.cells #[s] 3)).alloc (.cells #[s] 3)).frozen? (Q+1,0)=false:=FT _ _ _ cK;have fH:B4+1+1<Q:=by
     have:=(aA.o.em.av _ aA.o.i7).1;omega
    have eM:∀B,(Value.slice pa s pc).ownBlock=some B->B<Q:=fun B hB=>by
     have:=(aA.o.em.av B (aA.o.pvi B hB).1).1;omega
    obtain⟨fM,aI,cD,eW,eV⟩:=On eM aO aD bP cC;have dP:(wr.alloc (.cells #[s] 3)).cell? (Q,0)=some (.int .i64 s):=A5 _ _ _ hQ;clear bB aO aA eM;go_upto_region 9 with fail
    clear aD bP cC dP c5;generalize (wr.alloc (.cells #[s] 3)).alloc (.cells #[s] 3)=W2 at *;have dE:=Aa fH;have dV:=Aa cZ.o;have eR:Hia (∀k',s<=k'->k'<s->a1 k' c=0):=Aa (fun k' h1 h2=>ac);clear hQ cK cZ
    go_loopg [] (R+1) (fun gk wr=>∃k:Nat,s<=k/\k<=R/\R+1-k<=gk/\wr.cell? (Q+1,0)=some (.int .i64 k)/\wr.frozen? (Q+1,0)=false/\wr.cell? (Q,0)=some (.int .i64 s)/\
     Hia (EB w0 wr base g R N bQ bN a1 ((Q+1) :: Q :: AV (.slice pa s pc) B4 (B4+1) (B4+1+1)) B4 (B4+1) (B4+1+1) b (.slice pa s pc) piv)/\Hia (∀k',s<=k'->k'<k->a1 k' c=0))
    case atStart=>exact⟨s,ζ _,ac,ac,eW.o,eV.o,cD.o,aI,eR⟩
    case round=>
     clear aI eR cD eW eV;obtain⟨k,fE,hk2,fF,bP,cC,aD,aA,cE⟩:=hrel;have c5:=aA.o.c5;by_cases hkR:k<R
     .have cg:=aA.o.em.cell hkR;have ce:=aA.o.em.ent hkR hcN;have i1:(0:Int)<=(k:Int):=by omega
      have i2:(k:Int)<(R:Int):=ac;have i3:(0:Int)<=(c:Int):=ac;by_cases hz:a1 k c=0
      .have fG:(a1 k c==0)=true:=by simp[hz]
       have cX:=Aa (aA.o.setB (B:=Q+1) ag (by have:=dE.o;omega) (by have:=dE.o;omega) (by have:=dE.o;omega) (fun e=>by have:=fM.o _ e;omega) (by have:=eD.o;have:=dE.o;omega) (.int .i64 ((k:Int)+1)));have cN:(wr.setCell (Q+1,0) (.int .i64 ((k:Int)+1))).cell? (Q+1,0)=some (.int .i64 ((k:Int)+1)):=φ (h:=bP) ..;have aF:(wr.setCell (Q+1,0) (.int .i64 ((k:Int)+1))).cell? (Q,0)=some (.int .i64 s):=by rw[Ah ac];exact aD
       have cM:(wr.setCell (Q+1,0) (.int .i64 ((k:Int)+1))).frozen? (Q+1,0)=false:=by rw[World.frozen?_setCell];exact cC
       have fI:Hia (∀k',s<=k'->k'<k+1->a1 k' c=0):=Aa (fun k' h1 h2=>by
        by_cases e:k'=k
        .rw[e];exact hz
        .exact cE.o k' h1 ac)
       have eF:=Aa cN;have bD:=Aa aF;have eE:=Aa cM;clear hz aA cE cN aF cM;go_wp2_with fail
       go_roundg (gk-1)
       case rel=>exact⟨k+1,ac,ac,ac,by rw[show((k+1:Nat):Int)=(k:Int)+1 by push_cast;rfl];exact eF.o,eE.o,bD.o,cX,fI⟩
       case measure=>omega
      .have fG:(a1 k c==0)=false:=by simpa using hz
       have dJ:((k:Int)==(R:Int))=false:=aq;have hq2:(k==R)=false:=aq;have bS:=Aa (show s<R/\s<=k/\k<R from⟨ac,fE,hkR⟩);have eT:=Aa hz;have eI:Q+1∈(Q+1) :: Q :: AV (.slice pa s pc) B4 (B4+1) (B4+1+1):=ag;have cI:Q∈(Q+1) :: Q :: AV (.slice pa s pc) B4 (B4+1) (B4+1+1):=ag;have fQ:=Aa eI;have cT:=Aa cI;clear hz cE cC fF eI cI;go_upto_if 58 with fail
       clear cg ce
       go_cut [10] from 21 to 122 (fun d' wx=>∃(aP:Int) (aB aE:Nat->Nat) (a2:Nat->Nat->Int),d'= .int .i64 aP/\wx.cell? (Q,0)=some (.int .i64 s)/\
        Hia (EB w0 wx base g R N aB aE a2 ((Q+1) :: Q :: AV (.slice pa s pc) B4 (B4+1) (B4+1+1)) B4 (B4+1) (B4+1+1) b (.slice pa s pc) piv)/\Hia (PV p m R N a2 piv c)/\Hia (∀x,B9 p m ml N R a2 x↔B9 p m ml N R a x)/\Hia (a2 s c≠0))
       case first=>
        by_cases hks:k=s
        .have fB:((k:Int) !=(s:Int))=false:=by simp[hks]
         have fA:(k !=s)=false:=by simp[hks]
         have bU:Hia (a1 s c≠0):=Aa (by rw[<-hks];exact eT.o);clear hks;go_wp2_with fail
         go_meet
         exact⟨bM,bQ,bN,a1,rfl,aD,aA,dV,aY,bU⟩
        .have fB:((k:Int) !=(s:Int))=true:=by simp;omega
         have fA:(k !=s)=true:=aq;obtain⟨HE,HN,dU,cQ,bU,cD⟩:=Ty (XT wr aA.o.em (B4+1) (B4+1+1) (Q+1) Q s k bS.o.1 bS.o.2.2 (fun e=>hks e.symm) aA.o.i7 fQ.o cT.o aA.o.c5 aA.o.c7 bP aD) (fun wx (h:Ex w0 wx)=>O9 wx (HG.o.ex h) bM) (show PV p m R N (DO a1 s k) piv c from by have:=dV.o.swp (k:=k) (by rw[HS.o];exact bS.o.2.1) bS.o.2.2;rw[HS.o]at this;exact this) (show ∀x,B9 p m ml N R (DO a1 s k) x↔B9 p m ml N R a x from fun x=>(B9.swp bS.o.1 bS.o.2.2).trans (aY.o x)) (show DO a1 s k s c≠0 from by unfold DO;rw[if_pos rfl];exact eT.o) aD;clear hks aD bP;go_wp2_with (first|(go_at_call 248;refine HE.o.mono ?_;rintro e wx aC;obtain⟨⟨t,rfl⟩,_⟩:=id aC;obtain⟨aB,aE,aO⟩:=aA.o.step aC;have c4n:=aO.c4;have aF:=aC.2.2.1.cell cT.o cD.o;have aI:=Aa aO;clear aC aO)|(go_at_call 158;refine(HN.o _ aI.o.ex).mono ?_;rintro e wy⟨rfl,n,rfl⟩))
         go_meet
         exact⟨_,aB,aE,_,rfl,((Ex.refl wx).drewN n).cell aF,Aa (aI.o.later ((Ex.refl wx).drewN n)),dU,cQ,bU⟩
       case rest=>
        obtain⟨aP,aB,aE,a2,rfl,aD,aA,bA,aN,cH⟩:=hcut;have aM:=bS.o.1;obtain⟨bC,bF,bG,bI,bH⟩:=On aD (aA.o.em.cell aM) (aA.o.em.ent aM hcN) aA.o.c4 aA.o.c5;obtain⟨r1,r2⟩:=bA.o.rng s aM c hcN;have dG:=Gu r1 r2;obtain⟨Z,hZ⟩:=nA (Av (p^m) (a2 s c));rw[hZ]at dG;have eK:1<=Z:=by have:=cH.o;omega
        have dN:Z<p^m:=by rw[<-hZ];exact Cb (ϕ ac) _
        obtain⟨KI,dB⟩:∃K,Eg p m ml Z=K:=⟨_,rfl⟩;have bL:=Le (ml:=ml) p2 m1 HF.o eK dN;have cL:KI<p^m:=by rw[<-dB];exact Kb (ϕ ac) _
        rw[dB]at bL;have bX:=Aa (show Am p m (lw ml) Z KI=1/\KI<p^m/\a2 s c=Z/\Av (p^m) (a2 s c)=Z/\Z<p^m from⟨bL,cL,dG.symm,hZ,dN⟩);have aK:Hia (∀w',Ex w0 w'->Calls Tryz.prog 250 #[(b,0),.int .i64 (a2 s c)] w' fun r w''=>r= .returned (.tuple #[(KI:Nat),Ω])/\∃n,w''=w'.drewN n):=Aa (fun w' h=>by
         have:=Uv w' (HG.o.ex h) eS.o.1 eS.o.2 (a2 s c);rw[hZ]at this;unfold R8 at this;rw[if_neg ac,dB]at this;exact this)
        obtain⟨KD,eO⟩:∃K,Am p m (lw ml) (Av (p^m) aP) Z=K:=⟨_,rfl⟩;have cS:Hia (∀w',Ex w0 w'->Calls Tryz.prog 106 #[(b,0),aP,.int .i64 (a2 s c)] w' fun r w''=>r= .returned (.int .i64 (KD:Nat))/\∃n,w''=w'.drewN n):=Aa (fun w' h=>by
         have:=EZ w' (HG.o.ex h) aP (a2 s c);rw[hZ,eO]at this;exact this)
        have i1:(0:Int)<=(s:Int):=ac;have i2:(s:Int)<(R:Int):=ac;have i3:(0:Int)<=(c:Int):=ac;clear hZ dB bL cL eO r1 r2 dG eK dN aD bP c5;go_upto_region 15 with fail
        have E0:Ex wc wc.drew:=(Ex.refl wc).drew;have G0:Ex w0 wc.drew:=aA.o.ex.trans E0
        go_region_held3 (fun w'=>w'.cell? (B4,0)=some (.pointer (some (b,0)))/\w'.cell? (B4+1,0)=some (.slice (some (g,0)) R R)/\w'.cell? (Q,0)=some (.int .i64 s)/\w'.cell? (g,s)=some (.slice (some (aB s,0)) N (aE s))/\w'.cell? (aB s,c)=some (.int .i64 (a2 s c)))
         (first|with_reducible exact⟨E0.cell bI.o,E0.cell bH.o,E0.cell bC.o,E0.cell bF.o,E0.cell bG.o⟩|with_reducible exact⟨((Ex.refl wc).drewN _).cell bI.o,((Ex.refl wc).drewN _).cell bH.o,((Ex.refl wc).drewN _).cell bC.o,((Ex.refl wc).drewN _).cell bF.o,((Ex.refl wc).drewN _).cell bG.o⟩)
         ((go_at_call 106;(with_reducible refine(cS.o _ G0).mono ?_);rintro e wx1⟨rfl,n1,rfl⟩))
        clear E0 G0;go_upto_region 16 with fail
        have HD:=Aa (aA.o.later ((Ex.refl wc).drewN (1+n1)));have aW:=Aa (((Ex.refl wc).drewN (1+n1)).cell bC.o);clear bC bF bG bI bH aA cS;generalize wc.drewN (1+n1)=wd at *;obtain⟨bI,bH,bF,bG⟩:=Of HD.o.c4 HD.o.c5 (HD.o.em.cell aM) (HD.o.em.ent aM hcN);have E0:Ex wd wd.drew:=(Ex.refl wd).drew;have G0:Ex w0 wd.drew:=HD.o.ex.trans E0;have eH:∀n,((wd.drewN n).alloc (.cells #[Ω] 3)).cell? (wd.heap.size,0)=some (.int .i64 0):=fun n=>A5 _ _ _ rfl;have fD:∀n,((wd.drewN n).alloc (.cells #[Ω] 3)).frozen? (wd.heap.size,0)=false:=fun n=>FT _ _ _ rfl;have eG:(wd.alloc (.cells #[Ω] 3)).cell? (wd.heap.size,0)=some (.int .i64 0):=A5 _ _ _ rfl;have fC:(wd.alloc (.cells #[Ω] 3)).frozen? (wd.heap.size,0)=false:=FT _ _ _ rfl;have bW:Hia (∀(W:World) (u:Value),Ex wd W->(W.setCell (wd.heap.size,0) u).cell? (B4,0)=some (.pointer (some (b,0)))/\(W.setCell (wd.heap.size,0) u).cell? (B4+1,0)=some (.slice (some (g,0)) R R)/\(W.setCell (wd.heap.size,0) u).cell? (Q,0)=some (.int .i64 s)/\(W.setCell (wd.heap.size,0) u).cell? (g,s)=some (.slice (some (aB s,0)) N (aE s))/\(W.setCell (wd.heap.size,0) u).cell? (aB s,c)=some (.int .i64 (a2 s c))):=Aa (fun W u hW=>by
         have k1:=η _ _ bI.o;have k2:=η _ _ bH.o;have k3:=η _ _ aW.o;have k4:=η _ _ bF.o;have k5:=η _ _ bG.o;dsimp only at k1 k2 k3 k4 k5;rw[Ah ac,Ah ac,Ah ac,Ah ac,Ah ac];exact⟨hW.cell bI.o,hW.cell bH.o,hW.cell aW.o,hW.cell bF.o,hW.cell bG.o⟩)
        have bY:Hia (∀(W:World),Ex wd W->W.cell? (B4,0)=some (.pointer (some (b,0)))/\W.cell? (B4+1,0)=some (.slice (some (g,0)) R R)/\W.cell? (Q,0)=some (.int .i64 s)/\W.cell? (g,s)=some (.slice (some (aB s,0)) N (aE s))/\W.cell? (aB s,c)=some (.int .i64 (a2 s c))):=Aa (fun W hW=>⟨hW.cell bI.o,hW.cell bH.o,hW.cell aW.o,hW.cell bF.o,hW.cell bG.o⟩);have k7:=(HD.o.em.av _ HD.o.i7).1;have k4:=(HD.o.em.av _ HD.o.i4).1;have k5:=(HD.o.em.av _ HD.o.i5).1;have dZ:Hia (∀n,EB w0 (((wd.drewN n).alloc (.cells #[Ω] 3)).setCell (wd.heap.size,0) (.int .i64 (KI:Nat))) base g R N aB aE a2 (wd.heap.size :: (Q+1) :: Q :: AV (.slice pa s pc) B4 (B4+1) (B4+1+1)) B4 (B4+1) (B4+1+1) b (.slice pa s pc) piv):=Aa (fun n=>by
         have h:=(HD.o.later ((Ex.refl wd).drewN n)).box (.cells #[Ω] 3);exact h.setB (B:=wd.heap.size) (Θ ..) ac ac ac (fun e=>by have:=(HD.o.em.av _ (HD.o.pvi _ e).1).1;omega) (by have:=eD.o;omega) _)
        have eC:Hia (∀n,(((wd.drewN n).alloc (.cells #[Ω] 3)).setCell (wd.heap.size,0) (.int .i64 (KI:Nat))).cell? (wd.heap.size,0)=some (.int .i64 (KI:Nat))):=Aa (fun n=>φ (h:=eH n) ..);have bZ:Hia (∀n,EB w0 (((wd.alloc (.cells #[Ω] 3)).drewN n).setCell (wd.heap.size,0) (.int .i64 (KI:Nat))) base g R N aB aE a2 (wd.heap.size :: (Q+1) :: Q :: AV (.slice pa s pc) B4 (B4+1) (B4+1+1)) B4 (B4+1) (B4+1+1) b (.slice pa s pc) piv):=Aa (fun n=>by
         have h:=(HD.o.box (.cells #[Ω] 3)).later ((Ex.refl _).drewN n);exact h.setB (B:=wd.heap.size) (Θ ..) ac ac ac (fun e=>by have:=(HD.o.em.av _ (HD.o.pvi _ e).1).1;omega) (by have:=eD.o;omega) _)
        have cA:Hia (∀n,(((wd.alloc (.cells #[Ω] 3)).drewN n).setCell (wd.heap.size,0) (.int .i64 (KI:Nat))).cell? (wd.heap.size,0)=some (.int .i64 (KI:Nat))):=Aa (fun n=>φ (h:=((Ex.refl _).drewN n).cell eG) ..);have fL:Hia (Q<wd.heap.size):=Aa (η _ _ aW.o);clear k4 k5 k7
        go_cut [16,17] from 21 to 122 (fun dF eX wx=>dF= .pointer (some (wd.heap.size,0))/\eX= .int .i64 0/\wx.cell? (Q,0)=some (.int .i64 s)/\wx.cell? (wd.heap.size,0)=some (.int .i64 (KI:Nat))/\
         Hia (EB w0 wx base g R N aB aE a2 (wd.heap.size :: (Q+1) :: Q :: AV (.slice pa s pc) B4 (B4+1) (B4+1+1)) B4 (B4+1) (B4+1+1) b (.slice pa s pc) piv))
        case first=>
         go_region_held3 (fun w'=>w'.cell? (B4,0)=some (.pointer (some (b,0)))/\w'.cell? (B4+1,0)=some (.slice (some (g,0)) R R)/\w'.cell? (Q,0)=some (.int .i64 s)/\w'.cell? (g,s)=some (.slice (some (aB s,0)) N (aE s))/\w'.cell? (aB s,c)=some (.int .i64 (a2 s c)))
          (first|with_reducible exact bY.o _ E0|with_reducible exact bY.o _ ((Ex.refl wd).drewN _)|with_reducible exact bY.o _ (((Ex.refl wd).drewN _).alloc _)|with_reducible exact bY.o _ ((Ex.refl wd).drew.alloc _)|with_reducible exact bY.o _ ((Ex.refl wd).alloc _).drew|with_reducible exact bY.o _ (((Ex.refl wd).alloc _).drewN _)|with_reducible exact bW.o _ _ (((Ex.refl wd).drewN _).alloc _)|with_reducible exact bW.o _ _ (((Ex.refl wd).alloc _).drewN _))
          ((go_at_call 250;(first|with_reducible refine(aK.o _ G0).mono ?_|with_reducible refine(aK.o _ (HD.o.ex.drewN _)).mono ?_|with_reducible refine(aK.o _ ((HD.o.ex.alloc _).drew)).mono ?_|with_reducible refine(aK.o _ ((HD.o.ex.drew).alloc _)).mono ?_|with_reducible refine(aK.o _ ((HD.o.ex.alloc _).drewN _)).mono ?_);rintro e wx1⟨rfl,n2,rfl⟩))
         all_goals
          go_wp2_with fail
          go_meet
          first
                    | with_reducible exact⟨rfl,rfl,(bW.o _ _ (((Ex.refl wd).drewN _).alloc _)).2.2.1,eC.o _,Aa (dZ.o _)⟩
                    | with_reducible exact⟨rfl,rfl,(bW.o _ _ (((Ex.refl wd).alloc _).drewN _)).2.2.1,cA.o _,Aa (bZ.o _)⟩
                    | exact⟨rfl,rfl,(bW.o _ _ (((Ex.refl wd).drewN _).alloc _)).2.2.1,eC.o _,Aa (dZ.o _)⟩
                    | exact⟨rfl,rfl,(bW.o _ _ (((Ex.refl wd).alloc _).drewN _)).2.2.1,cA.o _,Aa (bZ.o _)⟩
        case rest=>
         obtain⟨rfl,rfl,aD,eQ,aA⟩:=hcut;clear bW bY dZ bZ eC cA eH fD eG fC bF bG bI bH aW HD E0 G0 aK;generalize wd.heap.size=Q2 at *;have cU:Hia (Q2∈Q2 :: (Q+1) :: Q :: AV (.slice pa s pc) B4 (B4+1) (B4+1+1)):=Aa (Θ ..);have bV:Hia (Q∈Q2 :: (Q+1) :: Q :: AV (.slice pa s pc) B4 (B4+1) (B4+1+1)):=Aa (ag);go_upto_if 92 with fail
         go_cut [16] from 21 to 122 (fun dF wx=>∃(aV aS:Nat->Nat) (a3:Nat->Nat->Int),dF= .pointer (some (Q2,0))/\wx.cell? (Q,0)=some (.int .i64 s)/\
          Hia (EB w0 wx base g R N aV aS a3 (Q2 :: (Q+1) :: Q :: AV (.slice pa s pc) B4 (B4+1) (B4+1+1)) B4 (B4+1) (B4+1+1) b (.slice pa s pc) piv)/\Hia (PV p m R N a3 piv c)/\Hia (∀x,B9 p m ml N R a3 x↔B9 p m ml N R a x)/\Hia (a3 s c=1))
         case first=>
          by_cases hK1:KI=1
          .have eZ:(((KI:Nat):Int) !=1)=false:=by simp[hK1]
           have bT:Hia (a2 s c=1):=Aa (by
            obtain⟨k1,k2,k3,k4,k5⟩:=bX.o;rw[hK1,BD p2 m1 k5]at k1;rw[k3,k1];rfl)
           clear hK1;go_wp2_with fail
           go_meet
           exact⟨aB,aE,a2,rfl,aD,aA,bA,aN,bT⟩
          .have eZ:(((KI:Nat):Int) !=1)=true:=by simp;omega
           have HE:=Aa (XU w0 wc HG.o aA.o.ex aA.o.em aA.o.bs ac (B4+1) (B4+1+1) B4 Q2 Q s (KI:Nat) aM aA.o.i7 aA.o.i4 cU.o bV.o aA.o.c5 aA.o.c7 aA.o.c4 eQ aD);rw[AE bX.o.2.1]at HE;have dT:Hia (PV p m R N (Ay a2 s (BT p m ml KI (a2 s))) piv c):=Aa (by have:=bA.o.scl (ml:=ml) ac (by rw[HS.o];exact aM) (k:=KI);rw[HS.o]at this;exact this);have cP:Hia (∀x,B9 p m ml N R (Ay a2 s (BT p m ml KI (a2 s))) x↔B9 p m ml N R a x):=Aa (fun x=>(B9.scl p2 m1 HF.o aM (by
            have k1:=bX.o.1;by_cases e:KI=0
            .rw[e,Bc ac]at k1;omega
            .omega) bX.o.2.1).trans (aN.o x))
           have bT:Hia (Ay a2 s (BT p m ml KI (a2 s)) s c=1):=Aa (by
            rw[Ab];unfold BT;rw[bX.o.2.2.2.1,AY,bX.o.1];rfl)
           have cD:=Aa aD;clear hK1 aD eQ;go_wp2_with (go_at_call 248;refine HE.o.mono ?_;rintro e wx aC;obtain⟨⟨t,rfl⟩,_⟩:=id aC;obtain⟨aV,aS,dM⟩:=aA.o.step aC;have aF:=aC.2.2.1.cell bV.o cD.o;have cX:=Aa dM;clear aC dM)
           go_meet
           exact⟨aV,aS,_,rfl,aF,cX,dT,cP,bT⟩
         case rest=>
          obtain⟨aV,aS,a3,rfl,aD,aA,cG,bE,aG⟩:=hcut;have dL:∀B,(Value.slice pa s pc).ownBlock=some B->B∈Q :: AV (.slice pa s pc) B4 (B4+1) (B4+1+1):=fun B hB=>by
           unfold AV;rw[hB];simp
          have HL:=Aa (aA.o.less (bvs:=Q :: AV (.slice pa s pc) B4 (B4+1) (B4+1+1)) (fun B hB=>ω _ (ω _ hB)) bf bf bf dL);have c5:=aA.o.c5;have fR:=Aa dL;have aL:Hia (∀i',i'<0->i'≠s->a3 i' c=0):=Aa (fun i' h=>ac);clear aA dL cH aN bA bX cU bV fL;go_wp2_with fail
          clear c5
          go_loopw [98] (fun i' wr=>∃(i:Nat) (aU aR:Nat->Nat) (a4:Nat->Nat->Int),i<=R/\i'= .int .i64 i/\wr.cell? (Q,0)=some (.int .i64 s)/\Hia (EB w0 wr base g R N aU aR a4 (Q :: AV (.slice pa s pc) B4 (B4+1) (B4+1+1)) B4 (B4+1) (B4+1+1) b (.slice pa s pc) piv)/\Hia (PV p m R N a4 piv c)/\Hia (∀x,B9 p m ml N R a4 x↔B9 p m ml N R a x)/\Hia (a4 s c=1)/\Hia (∀i',i'<i->i'≠s->a4 i' c=0)) (fun i' _=>R-(intOf i').toNat)
          case atStart=>exact⟨0,aV,aS,a3,ac,rfl,aD,HL,cG,bE,aG,aL⟩
          case round=>
           clear HL cG bE aG aL aD;obtain⟨i,aU,aR,a4,hi,rfl,aD,aA,aZ,aJ,aG,aH⟩:=hrel;by_cases hiR:i<R
           .obtain⟨P,hP⟩:=nA wr.heap.size;have dO:(wr.alloc (.cells #[i] 3)).heap.size=P+1:=by simp[hP]
            have bB:=aA.o.box (.cells #[i] 3);have aO:=bB.box (.cells #[.int .i64 (a4 i c)] 3);rw[dO,hP]at aO;rw[hP]at bB;have eA:Ex wr (wr.alloc (.cells #[i] 3)):=(Ex.refl wr).alloc _;have d5:=bB.c5;have eP:(wr.alloc (.cells #[i] 3)).cell? (P,0)=some (.int .i64 i):=A5 _ _ _ hP;have dg:=bB.em.cell hiR;have de:=bB.em.ent hiR hcN;have dD:((wr.alloc (.cells #[i] 3)).alloc (.cells #[.int .i64 (a4 i c)] 3)).cell? (P,0)=some (.int .i64 i):=((Ex.refl _).alloc _).cell eP;have dC:((wr.alloc (.cells #[i] 3)).alloc (.cells #[.int .i64 (a4 i c)] 3)).cell? (P+1,0)=some (.int .i64 (a4 i c)):=A5 _ _ _ dO;have aF:((wr.alloc (.cells #[i] 3)).alloc (.cells #[.int .i64 (a4 i c)] 3)).cell? (Q,0)=some (.int .i64 s):=(eA.alloc _).cell aD;obtain⟨aI,fT,fS,bD⟩:=Of aO dD dC aF;have j1:(0:Int)<=(i:Int):=ac;have j2:(i:Int)<(R:Int):=ac;clear bB aO aA eA aD dD dC aF;go_upto_region 23 with fail
            clear d5 eP dg de;generalize (wr.alloc (.cells #[i] 3)).alloc (.cells #[.int .i64 (a4 i c)] 3)=W3 at *;clear hP dO;have aD:=bD.o;have dD:=fT.o;have dC:=fS.o;have dX:Hia (∀(wy:World) (aT aQ:Nat->Nat) (a5:Nat->Nat->Int),EB w0 wy base g R N aT aQ a5 ((P+1) :: P :: Q :: AV (.slice pa s pc) B4 (B4+1) (B4+1+1)) B4 (B4+1) (B4+1+1) b (.slice pa s pc) piv->EB w0 wy base g R N aT aQ a5 (Q :: AV (.slice pa s pc) B4 (B4+1) (B4+1+1)) B4 (B4+1) (B4+1+1) b (.slice pa s pc) piv):=Aa (fun wy aT aQ a5 h=>h.less (fun B hB=>ω _ (ω _ hB)) bf bf bf fR.o);by_cases his:i=s
            .have b1:((i:Int) !=(s:Int))=false:=by simp[his]
             have b2:(i !=s)=false:=by simp[his]
             have aL:Hia (∀i',i'<i+1->i'≠s->a4 i' c=0):=Aa (fun i' h bJ=>aH.o i' ac bJ);have cW:=Aa (dX.o _ _ _ _ aI.o);clear his aH;exact zbN
            .have b1:((i:Int) !=(s:Int))=true:=by simp;omega
             have b2:(i !=s)=true:=aq;by_cases aX:a4 i c=0
             .have b3:(a4 i c !=0)=false:=by simp[aX]
              have aL:Hia (∀i',i'<i+1->i'≠s->a4 i' c=0):=Aa (fun i' h bJ=>by
               by_cases e:i'=i
               .rw[e];exact aX
               .exact aH.o i' ac bJ)
              have cW:=Aa (dX.o _ _ _ _ aI.o);clear his aH aX;exact zbN
             .have b3:(a4 i c !=0)=true:=by simpa using aX
              have HE:=Aa (XV w0 W3 HG.o aI.o.ex aI.o.em aI.o.bs ac (B4+1) (B4+1+1) B4 P (P+1) Q s i (a4 i c) aM hiR his aI.o.i7 aI.o.i4 ag ag ag aI.o.c5 aI.o.c7 aI.o.c4 dD dC aD);obtain⟨KN,dA⟩:∃K,CL p m (Av (p^m) (a4 i c))=K:=⟨_,rfl⟩;have dJ:1<p^m:=BC p2 m1;have dR:Hia (Cn p m ml (a4 i) KN (a4 s) c=0):=Aa (by
               unfold Cn;have k1:Av (p^m) 1=1:=AE (q:=p^m) (x:=1) dJ;rw[aG.o,if_neg ac,k1,BD p2 m1 (by rw[<-dA];exact Dk ac _),<-dA,CW ac];rfl)
              rw[dA]at HE;have dS:Hia (PV p m R N (Ay a4 i (Cn p m ml (a4 i) KN (a4 s))) piv c):=Aa (by have:=aZ.o.add (ml:=ml) ac (by rw[HS.o];exact aM) hiR (by rw[HS.o];exact his) (k:=KN);rw[HS.o]at this;exact this);have cO:Hia (∀x,B9 p m ml N R (Ay a4 i (Cn p m ml (a4 i) KN (a4 s))) x↔B9 p m ml N R a x):=Aa (fun x=>(B9.add p2 aM hiR his).trans (aJ.o x));have cR:Hia (Ay a4 i (Cn p m ml (a4 i) KN (a4 s)) s c=1):=Aa (by rw[Ac _ _ (fun e=>his e.symm)];exact aG.o);have cY:Hia (∀i',i'<i+1->i'≠s->Ay a4 i (Cn p m ml (a4 i) KN (a4 s)) i' c=0):=Aa (fun i' h bJ=>by
               by_cases e:i'=i
               .rw[e,Ab];exact dR.o
               .rw[Ac _ _ e];exact aH.o i' ac bJ)
              clear his aH aX dA dJ;go_wp2_with (go_at_call 248;refine HE.o.mono ?_;rintro e wx aC;obtain⟨⟨t,rfl⟩,_⟩:=id aC;obtain⟨aT,aQ,eJ⟩:=aI.o.step aC;have aF:=aC.2.2.1.cell (show Q∈(P+1) :: P :: Q :: AV (.slice pa s pc) B4 (B4+1) (B4+1+1) by simp) bD.o;have cW:=Aa (dX.o _ _ _ _ eJ);clear aC eJ)
              go_roundw
              case rel=>exact⟨i+1,aT,aQ,_,ac,by go_num,aF,cW,dS,cO,cR,cY⟩
              case measure=>exact Ωm
           .obtain rfl:R=i:=by omega
            have fO:Hia (PV p m R N a4 (piv ++ [c]) (c+1)):=Aa (aZ.o.done (by rw[HS.o];exact aM) (by rw[HS.o];exact aG.o) fun i hi bJ=>aH.o i hi (by rw[<-HS.o];exact bJ));have fJ:Hia (base<=wr.heap.size):=Aa (by have:=aA.o.em.arr.lt;omega);have hp256:piv.length<=256:=by omega
            have hP:=Aa aA.o.pvo;clear aH aD;go_wp2_with (at_builtin;refine Al _ rfl _ _ 22 rfl base 3 (.int .i64 0) 1 8 Tryz.underlying22 Az rfl ae _ piv.length _ rfl hP.o [.int .i64 c] 3 _ rfl ag rfl aj ai ac fJ.o ?_)
            intro v2 w2 bK;have fP:=Aa ((aA.o.less (bvs:=AV (.slice pa s pc) B4 (B4+1) (B4+1+1)) (fun B hB=>ω _ hB) bf bf bf (fun B hB=>by unfold AV;rw[hB];simp)).app bK);obtain⟨va,vc,eY⟩:=Ad bK.own;subst eY;clear bK aA hP;go_wp2_with fail
            go_roundw
            case rel=>exact⟨c+1,piv ++ [c],_,aU,aR,a4,ac,by go_num,rfl,fP,fO,aJ⟩
            case measure=>exact Ωm
     .obtain rfl:R=k:=by omega
      have fN:=Aa (dV.o.none fun k' h1 h2=>cE.o k' (by rw[<-HS.o];exact h1) h2);have cX:=Aa aA.o.toAV;have dM:decide ((R:Int)<(R:Int))=false:=by simp
      have hb4:((R:Int)==(R:Int))=true:=ag;clear aA cE cC aD;go_wp2_with fail
      go_roundw
      case rel=>exact⟨c+1,piv,bM,bQ,bN,a1,ac,by go_num,rfl,cX,fN,aY⟩
      case measure=>exact Ωm
   .have cJ:piv.length=R:=by omega
    have b3:decide ((piv.length:Int)<(R:Int))=false:=aq;have b4:decide (piv.length<R)=false:=aq;have HE:=Aa (cV.o (.inl cJ));have dQ:=Aa aA.o.ex;have dW:=Aa (fun B e=>(aA.o.pvo.lt B e).1);clear cJ cV hpR aA;exact zcm
  .have cJ:c=N:=by omega
   have b1:decide ((c:Int)<(N:Int))=false:=aq;have b2:decide (c<N)=false:=aq;have HE:=Aa (cV.o (.inr cJ));have dQ:=Aa aA.o.ex;have dW:=Aa (fun B e=>(aA.o.pvo.lt B e).1);clear cJ cV aA;exact zcm
theorem Xo:(Tryz.prog.info? 22).map (fun i=>(i.zero,i.size,i.bytes))=some (some (.slice none 0 0),1,24):=ah
def An(rows:List (List Int))(i j:Nat):Int:=(rows.getD i []).getD j 0
structure EK(w0 w:World)(g R N:Nat)(blk cap:Nat->Nat)(a:Nat->Nat->Int)(k:Nat):Prop where
 arr:AJ w w0.heap.size 22 g R (fun i=>if i<k then Ea blk cap N i else .slice none 0 0)
 row:∀i,i<k->Bb w w0.heap.size 3 (blk i) N (cap i) (iv (a i))
 apart:∀i j,i<k->j<k->i≠j->blk i≠blk j
 off:∀i,i<k->blk i≠g
 ex:Ex w0 w
theorem EK.later{w0 w w':World}{g R N:Nat}{blk cap:Nat->Nat}{a:Nat->Nat->Int}{k:Nat}(h:EK w0 w g R N blk cap a k)(hx:Ex w w'):EK w0 w' g R N blk cap a k:=
 ⟨h.arr.ex hx,fun i hi=>(h.row i hi).ex hx,h.apart,h.off,h.ex.trans hx⟩
theorem zbd{P:Prop}(h:P:=by
 rw[if_neg h,if_neg (by omega)]):P:=h
theorem EK.put{w0 w:World}{g R N:Nat}{blk cap:Nat->Nat}{a:Nat->Nat->Int}{k:Nat}(h:EK w0 w g R N blk cap a k){w':World}(hx:Ex w w'){nb nc:Nat}(hn:Bb w' w.heap.size 3 nb N nc (iv (a k)))(hw:w0.heap.size<=w.heap.size):
  EK w0 (w'.setCell (g,k) (.slice (some (nb,0)) N nc)) g R N (Ay blk k nb) (Ay cap k nc) a (k+1):=by
 have h1:=h.later hx;have hgl:=h.arr.lt.2;have hnl:=hn.lt.1;have aA:nb≠g:=ac;refine⟨(h1.arr.set k _).congr fun i hi=>?_,fun i hi=>?_,fun i j hi hj aB=>?_,fun i hi=>?_,h1.arr.exSet (ζ _) h1.ex k _⟩
 .by_cases e:i=k
  .subst e;rw[Ab];show _=(if i<i+1 then Ea (Ay blk i nb) (Ay cap i nc) N i else .slice none 0 0)
   rw[if_pos ac];unfold Ea;rw[Ab,Ab]
  .rw[Ac _ _ e];show(if i<k then Ea blk cap N i else .slice none 0 0)=(if i<k+1 then Ea (Ay blk k nb) (Ay cap k nc) N i else .slice none 0 0)
   by_cases h:i<k
   .rw[if_pos h,if_pos ac];unfold Ea;rw[Ac _ _ e,Ac _ _ e]
   .exact zbd
 .by_cases e:i=k
  .subst e;rw[Ab,Ab];exact(show Bb w' w0.heap.size 3 nb N nc (iv (a i)) from Bj hn hw).other aA _
  .rw[Ac _ _ e,Ac _ _ e];exact(h1.row i ac).other (h.off i ac) _
 .by_cases e:i=k
  .subst e;rw[Ab,Ac _ _ (fun e=>aB e.symm)];have:=(h.row j ac).lt.2;omega
  .by_cases e2:j=k
   .subst e2;rw[Ab,Ac _ _ e];have:=(h.row i ac).lt.2;omega
   .rw[Ac _ _ e,Ac _ _ e2];exact h.apart i j ac ac aB
 .by_cases e:i=k
  .subst e;rw[Ab];exact aA
  .rw[Ac _ _ e];exact h.off i ac
theorem EK.done{w0 w:World}{g R N:Nat}{blk cap:Nat->Nat}{a:Nat->Nat->Int}(h:EK w0 w g R N blk cap a R):EM w w0.heap.size g R N blk cap a []:=
 ⟨h.arr.congr fun i hi=>by show(if i<R then Ea blk cap N i else .slice none 0 0)=_;rw[if_pos hi],h.row,h.apart,h.off,fun B hB=>by cases hB⟩
theorem VA(w:World)(N R:Nat)(rows:List (List Int))(v:Value)(hv:B6 w v rows)(hR:rows.length=R)(hR2:R<=256)(hN1:1<=N)(hN:N<=256)(hr:∀(i:Nat) (r:List Int),rows[i]?=some r->r.length=N):
  Calls Tryz.prog 202 #[v] w fun r w'=>∃g blk cap,r= .returned (.slice (some ⟨g,0,none⟩) R R)/\EM w' w.heap.size g R N blk cap (An rows) []/\Ex w w':=by
 obtain⟨za,zc,rfl,z1,z2,z3⟩:=hv.open;rw[hR]at z1 z3 ⊢;unfold maxLen at z2;have Z3:=Aa z3;have aN:=Aa hr;have aM:=Aa hR;clear z3 hr hv hR;go_enter Tryz.func202,Tryz.ntmps202
 go_wp2_with (at_make;refine Ar _ rfl _ _ 37 rfl 22 (.slice none 0 0) 24 Tryz.underlying37 Xo rfl _ R rfl rfl rfl ac ai ?_)
 intro w3 aA aI;obtain⟨g,aD⟩:=nA w.heap.size;have HSZ:=Aa aD;have aG:=Aa (show EK w w3 w.heap.size R N (fun _=>0) (fun _=>0) (An rows) 0 from⟨aA.congr fun i hi=>ag,fun i hi=>ac,fun i j hi=>ac,fun i hi=>ac,aI⟩);rw[aD]at aG
 try simp only[aD]
 clear aA aI aD;go_wp2_with fail
 go_loopw [11] (fun k' wr=>∃(k:Nat) (blk cap:Nat->Nat),k<=R/\k'= .int .i64 k/\Hia (EK w wr g R N blk cap (An rows) k)) (fun k' _=>R-(intOf k').toNat)
 case atStart=>exact⟨0,_,_,ac,rfl,aG⟩
 case round=>
  clear aG;obtain⟨k,blk,cap,hk,rfl,aB⟩:=hrel;by_cases hkR:k<R
  .obtain⟨zb,zo,rfl,aH⟩:=Z3.o ac;obtain⟨r,aC⟩:∃r,rows[k]?=some r:=⟨_,γ (by rw[aM.o];exact hkR)⟩;obtain⟨uz,c1,aF⟩:=aH k r aC;have c1:=aB.o.ex.cell c1;have aJ:=aN.o k r aC;have HC:=Aa (NF wr r uz (aF.ex aB.o.ex) ac ac);obtain⟨ua,uc,rfl,_,u2,_⟩:=aF.open;rw[aJ]at HC c1;have i1:(0:Int)<=(k:Int):=by omega
   have i2:(k:Int)<(R:Int):=ac;have aO:=Aa (show(fun j=>r.getD j 0)=An rows k from by
    funext j;unfold An;rw[δ (l:=rows),aC];rfl)
   have aK:=aB.o.arr.cell hkR;have aL:=aB.o.arr.frz k;clear aH aF aC aJ;go_wp2_with (go_at_call 154;refine HC.o.mono ?_;rintro e w4⟨gg,cc,rfl,aA,aE⟩;have hcg2:=aE.cell aK;have hfg2:=aE.frz aK aL)
   rw[aO.o]at aA;have HP:=Aa (aB.o.put aE aA aB.o.ex.size);go_roundw
   case rel=>exact⟨k+1,_,_,ac,by go_num,HP⟩
   case measure=>exact Ωm
  .obtain rfl:R=k:=by omega
   have HE:=Aa aB.o.done;have HX:=Aa aB.o.ex;clear aB;go_wp2_with fail
   go_ret;exact⟨g,blk,cap,rfl,HE.o,HX.o⟩
theorem EM.low{w:World}{base g R N:Nat}{blk cap:Nat->Nat}{a:Nat->Nat->Int}(h:EM w base g R N blk cap a []){A:Addr}(hA:A.block<base)(u:Value):EM (w.setCell A u) base g R N blk cap a []:=
 ⟨h.arr.other (by have:=h.arr.lt;omega) u,fun i hi=>(h.row i hi).other (by have:=(h.row i hi).lt;omega) u,h.apart,h.off,fun B hB=>by cases hB⟩
def Au(N k:Nat)(a:Nat->Nat->Int):List (List Int):=(ξ k).map fun i=>il N (a i)
theorem CR{N k i:Nat}{a:Nat->Nat->Int}(h:i<k):(Au N k a)[i]?=some (il N (a i)):=by unfold Au;simp[h]
theorem AI(N k:Nat)(a:Nat->Nat->Int):(Au N k a).length=k:=by unfold Au;simp
theorem EM.msl{w:World}{base g R N k:Nat}{blk cap:Nat->Nat}{a:Nat->Nat->Int}{avs:List Nat}(h:EM w base g R N blk cap a avs)(hk:k<=R)(hR:R<=256):B6 w (.slice (some (g,0)) k k) (Au N k a):=by
 refine⟨(ξ k).map fun i=>Ea blk cap N i,?_,fun i r u h1 h2=>?_⟩
 .rw[AI];refine⟨ag,some ⟨g,0,none⟩,k,rfl,ζ _,by unfold maxLen;omega,fun h0=>⟨g,0,rfl,fun i z hz=>?_⟩⟩;have hi:i<k:=by have:=(θ.1 hz).1;simpa using this
  simp[hi]at hz;subst hz;rw[Nat.zero_add];exact h.cell ac
 .have hi:i<k:=by have:=(θ.1 h1).1;rw[AI]at this;exact this
  rw[CR hi]at h1;injection h1 with h1;subst h1;simp[hi]at h2;subst h2;exact(h.row i ac).isl
theorem zb0{P:Prop}(h:P:=by
 refine Ly h2 _ ?_;rw[List.getD_eq_getElem?_getD,List.getElem?_eq_getElem (by omega)];exact List.getElem_mem _):P:=h
theorem Sy{p m:Nat}{ml:List Int}{b x0:Nat}(w:World)(hg:Bh w b p m ml x0)(aL:1<=x0)(aK:x0<p^m)(N R:Nat)(rows:List (List Int))(v:Value)(hv:B6 w v rows)(hR:rows.length=R)(aE:R<=256)(aM:1<=N)(hN:N<=256)(hr:∀(i:Nat) (r:List Int),rows[i]?=some r->r.length=N/\Ct (p^m) r=0):
  Calls Tryz.prog 157 #[(b,0),v,N] w fun r w'=>∃piv pv rv a',r= .returned (.tuple #[rv,pv])/\Ia p m ml N R (An rows) a' piv/\B6 w' rv (Au N piv.length a')/\Ak w' pv (pI piv)/\Ex w w'/\∃g blk cap,rv= .slice (some ⟨g,0,none⟩) piv.length piv.length/\EM w' w.heap.size g R N blk cap a' []/\∀B,pv.ownBlock=some B->w.heap.size<=B:=by
 have aA:Ra p m R N (An rows):=fun i hi j hj=>by
  obtain⟨r,aF⟩:∃r,rows[i]?=some r:=⟨_,γ ac⟩;obtain⟨h1,h2⟩:=hr i r aF;have e:An rows i j=r.getD j 0:=by unfold An;rw[δ (l:=rows),aF];rfl
  rw[e];exact zb0
 have HC:=Aa (VA w N R rows v hv hR aE aM hN fun i r h=>(hr i r h).1);have HG:=Aa hg;have aN:=Aa aA;clear hv hr aA hg;go_enter Tryz.func157,Tryz.ntmps157
 go_wp2_with (go_at_call 202;refine HC.o.mono ?_;rintro e w1⟨g,blk,cap,rfl,hem,hx1_⟩)
 refine(XP w w1 HG.o aL aK hx1_ hem (ζ _) hN aE aN.o).mono ?_;rintro e w2⟨piv,pv,det,blk',cap',a',rfl,aB,aD,aC,hx2_,aG⟩;obtain⟨aJ,aP,HX,aH,aI⟩:=On aB aD hx2_ aC aG;have hk:piv.length<=R:=by obtain⟨c,_,h,_⟩:=aD;exact h.le
 obtain⟨pa,pc,rfl,_,p2_,_⟩:=aC.open;rw[RN]at aH aI ⊢;clear hem aB aD aC hx1_ hx2_ HC aG;have k1:(0:Int)<=(piv.length:Int):=ac;have k2:(piv.length:Int)<=(R:Int):=ac;have aO:=Aa (aJ.o.msl hk aE);go_wp2_with fail
 go_ret2;exact⟨piv,_,_,a',rfl,aP.o,aO.o,aH.o,HX.o,g,blk',cap',rfl,aJ.o,aI.o⟩
end Go.Proofs.YtehieobniamagaaGreat
