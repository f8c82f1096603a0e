/- Walk of the pair's shows. -/
import Derived.Test.YtehieobniamagaaGreatZi20
namespace Go.Proofs.YtehieobniamagaaGreat
open Go.RowKit
set_option linter.all false
set_option maxRecDepth 100000
set_option maxHeartbeats 8000000
section
variable (p m:Nat) (ml:List Int)
def G9(msg:List Int)(rows:List (List Int)):Nat->Nat->Int
 | 0=>fun _=>0
 | i+1=>fun j=>((AK p m (Av (p^m) (G9 msg rows i j)) (Am p m (lw ml) (Av (p^m) (msg.getD i 0)) (Av (p^m) (An rows i j))):Nat):Int)
def LT(msg:List Int)(rows:List (List Int))(i c j:Nat):Int:=if j<c then G9 p m ml msg rows (i+1) j else G9 p m ml msg rows i j
def Wc(l1 l2:List (List Int))(tl sl:List Int)(side:Int)(msg:List Int):Bool:=
 let gl:=if side=1 then l2 else l1
 if msg.length≠gl.length∨(msg.any fun x=> !GU (p^m) x)=true then false else
 if side=1 then decide (0<=Ja p m ml tl.length (Hf p m ml tl.length (fun i=>F7 p m ml sl (An l1 i)) l1.length) (fun _=>IX tl (G9 p m ml msg gl gl.length)) 1)
 else decide (0<=Ja p m ml tl.length (Hf p m ml tl.length (fun i=>IX tl (An l2 i)) l2.length) (fun _=>F7 p m ml sl (G9 p m ml msg gl gl.length)) 1)
end
theorem Fw{n:Nat}{f g:Nat->Int}(h:∀j,j<n->f j=g j):il n f=il n g:=List.map_congr_left fun j hj=>h j (List.mem_range.1 hj)
theorem Tq{w:World}{B:Nat}{v:Value}{t:TypeId}{r:List Int}(h:w.heap[B]?=some (.cells #[v] t))(hv:Ak w v r):B6 w (.slice (some (B,0)) 1 1) [r]:=
 ⟨[v],Kw h,fun i r' u h1 h2=>by
  rcases i with _|i
  .simp at h1 h2;subst h1 h2;exact hv
  .simp at h1⟩
theorem seF_il{tl:List Int}{n N:Nat}{f:Nat->Int}(hN:tl.length=N)(hr:BW tl n=true):∀j,j<N->IX tl (fun k=>(il n f).getD k 0) j=IX tl f j:=fun j hj=>by
 have:=EV hr (i:=j) ac;show(il n f).getD (tl.getD j 0).toNat 0=f (tl.getD j 0).toNat
 exact Gz ac f
theorem mpF_il{p m:Nat}{ml sl:List Int}{n N:Nat}{f:Nat->Int}(hN:N<=n):∀j,j<N->F7 p m ml sl (fun k=>(il n f).getD k 0) j=F7 p m ml sl f j:=fun j hj=>by
 show((Am p m (lw ml) (Av (p^m) (sl.getD j 0)) (Av (p^m) ((il n f).getD j 0)):Nat):Int)=_
 rw[Gz ac f];rfl
section
variable {b p m x0:Nat} {ml:List Int}
theorem Rp(w:World)(SB A:Nat)(hg:Bh w b p m ml x0)(x:Int)(c0:w.cell? (SB,0)=some (.pointer (some (A,0))))(c1:w.cell? (A,0)=some (.pointer (some (b,0)))):
  Calls Tryz.prog 223 #[x,(SB,0)] w fun r w'=>r= .returned (.bool (!GU (p^m) x))/\Ex w w':=by
 have HI:=Aa (Pd w hg x);obtain⟨z,hz⟩:=nA (GU (p^m) x);rw[hz]at HI ⊢;clear hg hz;go_enter Tryz.func223,Tryz.ntmps223
 exact zbU
theorem zdq{P:Prop}(h:P:=by
 clear aB aA hd;go_simp;exact hK _):P:=h
theorem zan{P:Prop}(h:P:=by
 intro L a nn aB aA hd K hK;rw[if_neg (by decide)]at hK;have o4:a.tmps[4]?=some (.pointer (some (B,0))):=aA 4 (by kernel_rfl);have q0:(wr.drewN nn).cell? (B,0)=some (.pointer (some (A,0))):=KS.o;exact zdq):P:=h
theorem zau{P:Prop}(h:P:=by
 intro L a nn aB aA hd K hK;rw[if_neg (by decide)]at hK;have dG:a.tmps[10]?=some ((.slice (some (g,0)) n n)):=aA 10 (by kernel_rfl);exact zdq):P:=h
theorem zaA{P:Prop}(h:P:=by
 intro L a nn aB aA hd K hK;rw[if_neg (by decide)]at hK;have dF:a.tmps[13]?=some (.int .i64 c):=aA 13 (by kernel_rfl);exact zdq):P:=h
theorem zbV{P:Prop}(h:P:=by
 have q0:(wr.drewN nn).cell? (A,0)=some (.pointer (some (b,0))):=KA.o;exact zdq):P:=h
theorem zcs{P:Prop}(h:P:=by
 go_ret;exact⟨Aq (by rw[<-aL];exact cB.o),HX.o.trans (aF.o.trans aZ.o)⟩):P:=h
theorem zcW{P:Prop}(h:P:=by
 have cH:=Aa aO;clear h aO;go_wp2_with fail
 go_meet
 exact⟨cH.o,rfl⟩):P:=h
theorem UH(w:World)(hg:Bh w b p m ml x0)(bO:1<=x0)(bN:x0<p^m)(A n:Nat)(hn:n<=64)(v1 v2:Value)(hP:Mw w A b n v1 v2)(l1 l2:List (List Int))(h1:B6 w v1 l1)(h2:B6 w v2 l2)(cP:∀r∈l1,r.length=n)(cO:∀r∈l2,r.length=n)(cS:l1.length<=256)(cR:l2.length<=256)
  (tl sl:List Int) (tv sv:Value) (ht:Ak w tv tl) (hs:Ak w sv sl) (dJ:sl.length=tl.length) (dI:tl.length<=n) (bR:BW tl n=true) (side:Int) (msg:List Int) (mv:Value) (hm:Ak w mv msg):
  Calls Tryz.prog 182 #[(A,0),.agg #[tv,sv],side,mv] w fun r w'=>r= .returned (.bool (Wc p m ml l1 l2 tl sl side msg))/\Ex w w':=by
 have e1:=AF w (.cells #[(A,0)] 186);have s0:(w.alloc (.cells #[(A,0)] 186)).cell? (w.heap.size,0)=some (.pointer (some (A,0))):=ag;have cM:(w.alloc (.cells #[(A,0)] 186)).heap.size=w.heap.size+1:=ag;obtain⟨b0,b1,e2,-⟩:=AQ (w.alloc (.cells #[(A,0)] 186)) tv sv;rw[cM]at b0 b1;replace s0:=e2.cell s0;have hx:=e1.trans e2;have c0:=hx.cell hP.c0;have c4:=hx.cell hP.c4;have c5:=hx.cell hP.c5;have c10:=hx.cell hP.c10;obtain⟨B,hB⟩:=nA w.heap.size;rw[hB]at s0 b0 b1;obtain⟨ma,mc,rfl,-,m2,m3⟩:=hm.open;unfold maxLen at m2;obtain⟨HX,HG,HP,H1,H2,HT,HS,HM⟩:=OK hx (hg.ex hx) (hP.ex hx) (h1.ex hx) (h2.ex hx) (ht.ex hx) (hs.ex hx) (hm.ex hx);obtain⟨Z,hZ⟩:=nA (Wc p m ml l1 l2 tl sl side msg);have bX:=hZ;unfold Wc at bX;rw[hZ];have HZ:=Aa bX;clear hg hP h1 h2 ht hs hm e1 e2 cM hx hZ bX m3;obtain⟨xa,xc,rfl,-,xl,-⟩:=H1.o.open;obtain⟨ya,yc,rfl,-,yl,-⟩:=H2.o.open;go_enter Tryz.func182,Tryz.ntmps182
 go_upto_region 1 with fail
 try simp only[hB]
 clear hB;generalize (w.alloc (.cells #[(A,0)] 186)).alloc (.cells #[tv,sv] 71)=w1 at *;have bB:=Aa s0;have dE:=Aa b0;have dD:=Aa b1;obtain⟨gl,bU⟩:=nA ((if side=1 then l2 else l1));obtain⟨gv,aO⟩:=nA ((if side=1 then(.slice ya l2.length yc:Value) else .slice xa l1.length xc));have cI:Hia (B6 w1 gv gl/\gl.length<=256/\∀r∈gl,r.length=n):=Aa (by
  rw[<-bU,<-aO];by_cases h:side=1
  .rw[if_pos h,if_pos h];exact⟨H2.o,cR,cO⟩
  .rw[if_neg h,if_neg h];exact⟨H1.o,cS,cP⟩)
 have cC:=HZ.o;simp only[bU]at cC;have HZ:=Aa cC;clear cC;go_upto_if 23 with fail
 go_cut [9] from 23 to 28 (fun s9 wx=>s9=gv/\wx=w1)
 case first=>
  by_cases h:side=1
  .have hb:(side==1)=true:=by simpa using h
   rw[if_pos h]at aO;exact zcW
  .have hb:(side==1)=false:=by simpa using h
   rw[if_neg h]at aO;exact zcW
 case rest=>
  obtain⟨rfl,rfl⟩:=hcut;clear bU aO;obtain⟨ga,gc,rfl,-,g2,g3⟩:=cI.o.1.open;unfold maxLen at g2;have G3:=Aa g3;clear g3;by_cases hml:msg.length=gl.length
  .have cW:((msg.length:Int) !=(gl.length:Int))=false:=by simp;omega
   have bV:(msg.length !=gl.length)=false:=aq;have bA:=Aa (Ju wc (.pointer (some (B,0))) (.slice ma msg.length mc) msg.length (Aj msg) HM.o (fun i=> !GU (p^m) (msg.getD i 0)) (fun w1 i u bM hu=>by
    obtain⟨x,hx,rfl,dH⟩:=Oy hu;rw[dH];exact Rp w1 B A (HG.o.ex bM) x (bM.cell bB.o) (bM.cell HP.o.c0)))
   rw[L8 msg (fun x=> !GU (p^m) x)]at bA
   cases hany:(msg.any fun x=> !GU (p^m) x) with
   | true=>
    rw[hany]at bA;have hz:=HZ.o;rw[if_pos (.inr hany)]at hz;subst hz;clear hany hml;go_wp2_with (go_at_call 116;refine bA.o.mono ?_;rintro e w4⟨rfl,aP⟩;have bH:=Aa aP;clear aP)
    go_ret;exact⟨rfl,HX.o.trans bH.o⟩
   | false=>
    rw[hany]at bA;have hz:=HZ.o;rw[if_neg (by rw[hany];simp[hml])]at hz;have HZ:=Aa hz;have dT:=Aa hml;clear hany hml hz;go_wp2_with (first|(go_at_call 116;refine bA.o.mono ?_;rintro e w4⟨rfl,aP⟩;have bH:=Aa aP;have bJ:=aP.cell bB.o;have dL:=aP.cell HP.o.c4;clear aP)|(at_make;refine Ar _ rfl _ _ 22 rfl 3 (.int .i64 0) 8 Tryz.underlying22 Az rfl _ n rfl rfl rfl ac ai ?_))
    obtain⟨g,bF⟩:=nA w4.heap.size;intro w5 aC hx5
    try simp only[bF]
    have cZ:Hia (AJ w5 g 3 g n (iv (G9 p m ml msg gl 0))):=Aa (by rw[<-bF];exact aC);have dW:=Aa bF;have dO:=Aa (bH.o.trans hx5);have dU:=Aa (fun i (hi:i<gl.length)=>show gl[i]?=some (gl.getD i [])/\(gl.getD i []).length=n from by
     have h:gl[i]?=some (gl.getD i []):=aw;exact⟨h,cI.o.2.2 _ (List.mem_of_getElem? h)⟩)
    obtain⟨dV,dY,dS,dR⟩:=Of cI.o.2.1 (fun (w':World) (h:Ex wc w') (y z:Int)=>Km w' (HG.o.ex h) y z) (fun (w':World) (h:Ex wc w') (y z:Int)=>EZ w' (HG.o.ex h) y z) HG.o.sh.p2;have aL:=dT.o;obtain⟨M,hM⟩:=nA msg.length;have dB:=Aa hM;have HMO:=Aa HM.o;obtain⟨_,_,dK,-,-,m3⟩:=HM.o.open;injection dK with hme1 hme2 hme3;subst hme1;have M3:=Aa m3;rw[hM]at aL ⊢;have hM256:M<=256:=by have:=dV.o;omega
    clear aC hx5 bF bJ dL hM m3 hme3 hme2;go_wp2_with fail
    go_loopw [47] (fun i' wr=>∃i:Nat,i<=M/\i'= .int .i64 i/\Hia (AJ wr g 3 g n (iv (G9 p m ml msg gl i)))/\Hia (Ex wc wr)) (fun i' _=>M-(intOf i').toNat)
    case atStart=>exact⟨0,ac,rfl,cZ,dO⟩
    case round=>
     clear cZ;obtain⟨i,hi,rfl,aC,aE⟩:=hrel;by_cases hiM:i<M
     .obtain⟨mb,mo,rfl,cQ⟩:=M3.o (by have:=dB.o;omega);obtain⟨gb,go,rfl,cT⟩:=G3.o ac;obtain⟨cV,cU⟩:=dU.o i ac;obtain⟨uv,aX,cN⟩:=cT i _ cV;obtain⟨av,bW⟩:∃x,msg.getD i 0=x:=⟨_,rfl⟩;have cm:=aE.o.cell (cQ i av (by rw[<-bW];exact AZ (by have:=dB.o;omega)));have cu:=aE.o.cell aX;obtain⟨ua,uc,rfl,-,u2,u3⟩:=cN.open;rw[cU]at u3 cu;unfold maxLen at u2;have U3:=Aa u3;have cJ:=Aa (fun c (hc:c<n)=>AZ (l:=gl.getD i []) (i:=c) ac);have i1:(0:Int)<=(i:Int):=by omega
      have i2:(i:Int)<(M:Int):=ac;have i3:(i:Int)<(gl.length:Int):=ac;obtain⟨cY,bE,dX,HWR⟩:=Of (show AJ wr g 3 g n (iv (LT p m ml msg gl i 0)) from aC.o.icongr fun j hj=>by unfold LT;rw[if_neg ac]) aE.o bW (show Ex wc wr from aE.o);clear cQ cT cV cU aX cN u3 bW aC aE;go_wp2_with fail
      clear cm cu
      go_loopw [57] (fun c' wr=>∃c:Nat,c<=n/\c'= .int .i64 c/\Hia (AJ wr g 3 g n (iv (LT p m ml msg gl i c)))/\Hia (Ex wc wr)) (fun c' _=>n-(intOf c').toNat)
      case atStart=>exact⟨0,ac,rfl,cY,bE⟩
      case round=>
       clear cY bE;obtain⟨c,hc,rfl,aC,aE⟩:=hrel;by_cases hcn:c<n
       .obtain⟨ub,uo,rfl,aX⟩:=U3.o ac;obtain⟨xv,bK⟩:∃x,(gl.getD i []).getD c 0=x:=⟨_,rfl⟩;have bT:=cJ.o c hcn;rw[bK]at bT;have cx:=aE.o.cell (aX c xv bT);have J1:=Aa (show(0:Int)<=(c:Int) by omega);have J2:=Aa (show(c:Int)<(n:Int) by omega);have j1:=J1.o;have j2:=J2.o;obtain⟨aV,aQ⟩:∃x,G9 p m ml msg gl i c=x:=⟨_,rfl⟩;have KG:Hia (wr.cell? (g,c)=some (.int .i64 aV)):=Aa (by
         rw[aC.o.cell hcn,<-aQ];show some (Value.int .i64 (LT p m ml msg gl i c c))=_
         unfold LT;rw[if_neg ac])
        obtain⟨KF,KS,KA,aT,bC⟩:=On (aC.o.frz c) (aE.o.cell bB.o) (aE.o.cell HP.o.c0) aE.o aC.o;obtain⟨K1,bG⟩:∃K,Am p m (lw ml) (Av (p^m) av) (Av (p^m) xv)=K:=⟨_,rfl⟩;have aY:K1<p^m:=by rw[<-bG];exact A7 (by have:=dR.o;omega) _ _
        have cG:=Aa (fun w' (h:Ex wc w')=>dS.o w' h av xv);rw[bG]at cG;obtain⟨K2,bY⟩:∃K,AK p m (Av (p^m) aV) (Av (p^m) (K1:Nat))=K:=⟨_,rfl⟩;have cL:=Aa (fun w' (h:Ex wc w')=>dY.o w' h aV (K1:Nat));rw[bY]at cL;have dC:Hia (Ay (LT p m ml msg gl i c) c (K2:Int)=LT p m ml msg gl i (c+1)):=Aa (by
         funext j;by_cases e:j=c
         .subst e;rw[Ab];unfold LT;rw[if_pos ac];show _=((AK p m (Av (p^m) (G9 p m ml msg gl i j)) (Am p m (lw ml) (Av (p^m) (msg.getD i 0)) (Av (p^m) ((gl.getD i []).getD j 0))):Nat):Int)
          rw[aQ,dX.o,bK,bG,<-bY,AE aY]
         .rw[Ac _ _ e];unfold LT;by_cases h:j<c
          .exact zbc
          .rw[if_neg h,if_neg ac])
        have aW:=Aa (fun n'=>show AJ ((wr.drewN n').setCell (g,c) (.int .i64 (K2:Nat))) g 3 g n (iv (LT p m ml msg gl i (c+1))) from by
         rw[<-dC.o,<-CF];exact(bC.o.drewN n').set c _)
        have aN:=Aa (fun n'=>(bC.o.drewN n').exSet (a:=wc) (by rw[<-dW.o];exact bH.o.size) (aT.o.drewN n') c (.int .i64 (K2:Nat)));clear aX bK bT aQ bG aY bY aC aE;go_upto_region 13 with fail
        refine NM (fun k=>([(.slice (some (g,0)) n n),.int .i64 c,.pointer (some (A,0)),.pointer (some (A,0)),.pointer (some (A,0)),.pointer (some (b,0)),(.slice (some (g,0)) n n),.int .i64 c,.pointer (some (g,c)),.int .i64 aV,.pointer (some (A,0)),.pointer (some (A,0)),.pointer (some (A,0)),.pointer (some (b,0)),.int .i64 av,.int .i64 xv,.int .i64 (K1:Nat),.int .i64 (K2:Nat),.pointer (some (g,c))]:List Value).getD k undef) (fun w'=>w'.setCell (g,c) (.int .i64 (K2:Nat))) 19 ah ah ah ?_ ?_
        .simp only[AH];refine⟨?_,?_,?_,?_,?_,?_,?_,?_,?_,?_,?_,?_,?_,?_,?_,?_,?_,?_,?_,?_,trivial⟩
         .exact zau
         .exact zaA
         .exact zan
         .intro L a nn aB aA hd K hK;rw[if_neg ae]at hK;have e2:=aB 2 64 _ (hd ⟨2,.data⟩ ag rfl) rfl rfl;exact zdq
         .intro L a nn aB aA hd K hK;rw[if_neg ae]at hK;have e3:=aB 3 65 _ (hd ⟨3,.data⟩ ag rfl) rfl rfl;exact zdq
         .intro L a nn aB aA hd K hK;rw[if_neg ae]at hK;have e4:=aB 4 66 _ (hd ⟨4,.data⟩ ag rfl) rfl rfl;exact zbV
         .exact zau
         .exact zaA
         .intro L a nn aB aA hd K hK;rw[if_neg ae]at hK;have e6:=aB 6 68 _ (hd ⟨6,.data⟩ ag rfl) rfl rfl;have e7:=aB 7 69 _ (hd ⟨7,.data⟩ ag rfl) rfl rfl;have j1:=J1.o;have j2:=J2.o;exact zdq
         .intro L a nn aB aA hd K hK;rw[if_neg ae]at hK;have e8:=aB 8 70 _ (hd ⟨8,.data⟩ ag rfl) rfl rfl;have q0:(wr.drewN nn).cell? (g,c)=some (.int .i64 aV):=KG.o;exact zdq
         .exact zan
         .intro L a nn aB aA hd K hK;rw[if_neg ae]at hK;have e10:=aB 10 72 _ (hd ⟨10,.data⟩ ag rfl) rfl rfl;exact zdq
         .intro L a nn aB aA hd K hK;rw[if_neg ae]at hK;have e11:=aB 11 73 _ (hd ⟨11,.data⟩ ag rfl) rfl rfl;exact zdq
         .intro L a nn aB aA hd K hK;rw[if_neg ae]at hK;have e12:=aB 12 74 _ (hd ⟨12,.data⟩ ag rfl) rfl rfl;exact zbV
         .intro L a nn aB aA hd K hK;rw[if_neg ae]at hK;have o12:a.tmps[12]?=some (.int .i64 av):=aA 12 ah;exact zdq
         .intro L a nn aB aA hd K hK;rw[if_neg ae]at hK;have o14:a.tmps[14]?=some (.int .i64 xv):=aA 14 ah;exact zdq
         .intro L a nn aB aA hd K hK;rw[if_neg ae]at hK;have e13:=aB 13 75 _ (hd ⟨13,.data⟩ ag rfl) rfl rfl;have e14:=aB 14 76 _ (hd ⟨14,.data⟩ ag rfl) rfl rfl;have e15:=aB 15 77 _ (hd ⟨15,.data⟩ ag rfl) rfl rfl;clear aB aA hd;go_simp;refine(cG.o _ (aT.o.drewN nn)).mono ?_;rintro e w'⟨rfl,k',rfl⟩;rw[World.drewN_drewN];exact hK _
         .intro L a nn aB aA hd K hK;rw[if_neg ae]at hK;have e5:=aB 5 67 _ (hd ⟨5,.data⟩ ag rfl) rfl rfl;have e9:=aB 9 71 _ (hd ⟨9,.data⟩ ag rfl) rfl rfl;have e16:=aB 16 78 _ (hd ⟨16,.data⟩ ag rfl) rfl rfl;clear aB aA hd;go_simp;refine(cL.o _ (aT.o.drewN nn)).mono ?_;rintro e w'⟨rfl,k',rfl⟩;rw[World.drewN_drewN];exact hK _
         .intro L a nn aB aA hd K hK;rw[if_neg ae]at hK;have e0:=aB 0 62 _ (hd ⟨0,.data⟩ ag rfl) rfl rfl;have e1:=aB 1 63 _ (hd ⟨1,.data⟩ ag rfl) rfl rfl;have j1:=J1.o;have j2:=J2.o;exact zdq
         .intro L a nn aB aA hd K hK;rw[if_pos rfl]at hK;have e18:=aB 18 80 _ (hd ⟨18,.data⟩ ag rfl) rfl rfl;have e17:=aB 17 79 _ (hd ⟨17,.data⟩ ag rfl) rfl rfl;have q0:(wr.drewN nn).cell? (g,c)=some (.int .i64 aV):=KG.o;have q1:(wr.drewN nn).frozen? (g,c)=false:=KF.o;clear aB aA hd;go_simp;exact hK
        .intro n';simp only[Cg,Act.put,List.setIfInBounds_toArray,List.set_cons_zero,List.set_cons_succ];clear cG cL KG KF KS KA dC;go_wp2_with fail
         go_roundw
         case rel=>exact⟨c+1,ac,by go_num,Aa (aW.o _),Aa (aN.o _)⟩
         case measure=>exact Ωm
       .obtain rfl:c=n:=by omega
        have aW:Hia (AJ wr g 3 g c (iv (G9 p m ml msg gl (i+1)))):=Aa (aC.o.icongr fun j hj=>by unfold LT;rw[if_pos hj]);have aN:=Aa aE.o;clear aC aE;go_wp2_with fail
        go_roundw
        case rel=>exact⟨i+1,ac,by go_num,aW,aN⟩
        case measure=>exact Ωm
     .obtain rfl:i=M:=by omega
      have aW:=Aa aC.o.isl;have aN:=Aa aE.o;have cE:=Aa (fun (w':World) (h:Ex wc w')=>MW w' (HG.o.ex h) A n hn _ _ (HP.o.ex h) l1 l2 (H1.o.ex h) (H2.o.ex h) cP cO cS cR tl sl tv sv (HT.o.ex h) (HS.o.ex h) dJ dI bR);have bJ:=aN.o.cell bB.o;have dN:=aN.o.cell dE.o;have dM:=aN.o.cell dD.o;obtain⟨N,hN⟩:=nA tl.length;obtain⟨F1,cA⟩:∃F,(fun i=>F7 p m ml sl (An l1 i))=F:=⟨_,rfl⟩;obtain⟨F2,bZ⟩:∃F,(fun i=>IX tl (An l2 i))=F:=⟨_,rfl⟩;rw[cA,bZ,hN]at cE;have hz:=HZ.o;rw[cA,bZ,hN]at hz;rw[show gl.length=i from aL.symm]at hz;have HZ:=Aa hz;have cF:=Aa hN;have hN64:N<=64:=ac;clear aC aE hz cA bZ;go_wp2_with fail
      refine(cE.o _ aN.o).mono ?_;rintro e w9⟨u1,u2,rfl,bQ,bP,bL⟩;obtain⟨dQ,dP,aF,bD⟩:=Of bQ bP (aN.o.trans bL) (aW.o.ex bL);obtain⟨ea1,ec1,rfl,-,-,-⟩:=bQ.open;obtain⟨ea2,ec2,rfl,-,-,-⟩:=bP.open;clear bQ bP bL bJ dN dM cE aW;obtain⟨bI,cX,dA,cD⟩:=Of (fun (w':World) (h:Ex wc w')=>(⟨h.cell bB.o,h.cell dE.o,h.cell dD.o⟩:w'.cell? (B,0)=some (.pointer (some (A,0)))/\w'.cell? (B+1,0)=some tv/\w'.cell? (B+1,1)=some sv)) (fun (w':World) (h:Ex w9 w') (R:Nat) (hR:R<=1000) (a:Nat->Nat->Int) (v:Value) (hv:B6 w' v (Au N R a))=>Ks w' (HG.o.ex (aF.o.trans h)) bO bN A ((aF.o.trans h).cell HP.o.c0) N R ac hR a v hv) (fun (w':World) (h:Ex w9 w') (E:Nat) (a:Nat->Nat->Int) (R:Nat) (rv pv:Value) (hE:F9 w' E b N (Hf p m ml N a R) rv pv) (f:Nat->Int) (v:Value) (hv:B6 w' v (Au N 1 fun _=>f))=>Gq w' (HG.o.ex (aF.o.trans h)) E N ac _ rv pv hE (Kr N a R) 1 (fun _=>f) v hv) (show ∀w',Ex wc w'->Ak w' tv tl/\Ak w' sv sl from fun w' h=>⟨HT.o.ex h,HS.o.ex h⟩);have cW:n<=n:=Nat.le_refl _;by_cases hs1:side=1
      .subst hs1;have cB:Hia (decide (0<=Ja p m ml N (Hf p m ml N F1 l1.length) (fun _=>IX tl (G9 p m ml msg gl i)) 1)=Z):=Aa (by
        have:=HZ.o;rw[if_pos rfl]at this;exact this)
       have cK:=Aa (fun (w':World) (h:Ex w9 w')=>KE w' A N ac tl (il n (G9 p m ml msg gl i)) tv sv _ (cD.o _ (aF.o.trans h)).1 (bD.o.ex h) cF.o (by rw[AM];exact bR));obtain⟨k0,k1,k2⟩:=bI.o _ aF.o;clear HZ;go_upto_region 18 with fail
       have G0:Ex w9 w9.drew:=(Ex.refl w9).drew
       go_region_held3 (fun w'=>w'.cell? (B,0)=some (.pointer (some (A,0)))/\w'.cell? (B+1,0)=some tv/\w'.cell? (B+1,1)=some sv)
        ((refine bI.o _ (aF.o.trans ?_);first|with_reducible exact G0|with_reducible exact aR.o|with_reducible exact aM.o|exact aM.o.alloc _|with_reducible exact aZ.o))
        (first|(go_at_call 225;(with_reducible refine(cX.o _ G0 l1.length ac _ _ (dQ.o.ex G0)).mono ?_);rintro e w10⟨E1,rv1,pv1,rfl,aJ,aH⟩;have aU:=Aa aJ;have aR:=Aa (G0.trans aH);clear aJ aH)|(go_at_call 227;(with_reducible refine(cK.o _ aR.o).mono ?_);rintro e w11⟨g11,rfl,aI,aD⟩;have aS:=Aa aI.isl;have aK:=Aa aD;have aM:=Aa (aR.o.trans aD);clear aI aD)|(go_at_call 226;have h9:=aS.o.ex (AF w11 (.cells #[.slice (some (g11,0)) N N] 22));rw[Fw (seF_il cF.o bR)]at h9;have bS:=Tq (B:=w11.heap.size) (D4 rfl) h9;(with_reducible refine(dA.o _ (aM.o.alloc _) E1 F1 l1.length rv1 pv1 ((aU.o.ex aK.o).ex (AF w11 _)) (IX tl (G9 p m ml msg gl i)) _ bS).mono ?_);rintro e w12⟨rfl,aG⟩;have aZ:=Aa ((aM.o.alloc _).trans aG);clear aG))
       go_wp2_with fail
       exact zcs
      .have hbs:(side==1)=false:=by simpa using hs1
       have cB:Hia (decide (0<=Ja p m ml N (Hf p m ml N F2 l2.length) (fun _=>F7 p m ml sl (G9 p m ml msg gl i)) 1)=Z):=Aa (by
        have:=HZ.o;rw[if_neg hs1]at this;exact this)
       have cK:=Aa (fun (w':World) (h:Ex w9 w')=>La w' (HG.o.ex (aF.o.trans h)) A ((aF.o.trans h).cell HP.o.c0) N ac tl sl (il n (G9 p m ml msg gl i)) tv sv _ (cD.o _ (aF.o.trans h)).1 (cD.o _ (aF.o.trans h)).2 (bD.o.ex h) cF.o ac (by rw[AM];omega));obtain⟨k0,k1,k2⟩:=bI.o _ aF.o;clear HZ;go_upto_region 19 with fail
       have G0:Ex w9 w9.drew:=(Ex.refl w9).drew
       go_region_held3 (fun w'=>w'.cell? (B,0)=some (.pointer (some (A,0)))/\w'.cell? (B+1,0)=some tv/\w'.cell? (B+1,1)=some sv)
        ((refine bI.o _ (aF.o.trans ?_);first|with_reducible exact G0|with_reducible exact aR.o|with_reducible exact aM.o|exact aM.o.alloc _|with_reducible exact aZ.o))
        (first|(go_at_call 225;(with_reducible refine(cX.o _ G0 l2.length ac _ _ (dP.o.ex G0)).mono ?_);rintro e w10⟨E1,rv1,pv1,rfl,aJ,aH⟩;have aU:=Aa aJ;have aR:=Aa (G0.trans aH);clear aJ aH)|(go_at_call 228;(with_reducible refine(cK.o _ aR.o).mono ?_);rintro e w11⟨g11,rfl,aI,aD⟩;have aS:=Aa aI.isl;have aK:=Aa aD;have aM:=Aa (aR.o.trans aD);clear aI aD)|(go_at_call 226;have h9:=aS.o.ex (AF w11 (.cells #[.slice (some (g11,0)) N N] 22));rw[Fw (mpF_il ac)]at h9;have bS:=Tq (B:=w11.heap.size) (D4 rfl) h9;(with_reducible refine(dA.o _ (aM.o.alloc _) E1 F2 l2.length rv1 pv1 ((aU.o.ex aK.o).ex (AF w11 _)) (F7 p m ml sl (G9 p m ml msg gl i)) _ bS).mono ?_);rintro e w12⟨rfl,aG⟩;have aZ:=Aa ((aM.o.alloc _).trans aG);clear aG))
       go_wp2_with fail
       exact zcs
  .have cW:((msg.length:Int) !=(gl.length:Int))=true:=by simp;omega
   have bV:(msg.length !=gl.length)=true:=aq;have hz:=HZ.o;rw[if_pos (.inl hml)]at hz;subst hz;clear hml;exact zdf
end
def Sw:Rf:=⟨0,0,0, []⟩
def Nf(k:Nat)(l:List Int):Int:=if k=0 then 0 else l.getD (l.length-1) 0
section
variable (p m:Nat) (ml:List Int) (l1 l2:List (List Int)) (n:Nat) (es:List Rf)
def YI(k:Nat)(tl sl:List Int)(X:Nat × Int):Nat × Int:=
 if k=es.length then(k,13) else
 if (es.getD k Sw).tp≠Nf k tl∨(es.getD k Sw).sc≠Nf k sl then(k+1,13) else
 if (es.getD k Sw).side=-1/\(es.getD k Sw).msg.length=0/\tl.length<n then X else
 if ((es.getD k Sw).side=0∨(es.getD k Sw).side=1)/\Wc p m ml l1 l2 tl sl (es.getD k Sw).side (es.getD k Sw).msg=true then(k+1,0) else(k+1,13)
def flF:Nat->Nat->List Int->List Int->Nat × Int
 | 0,k,tl,sl=>YI p m ml l1 l2 n es k tl sl (k+1,13)
 | d+1,k,tl,sl=>YI p m ml l1 l2 n es k tl sl (Ek (flF d) (p^m) tl sl n (k+1))
end
def Ux(AB:Nat):World->Nat->Prop:=fun _ X=>X=AB
structure Gh(wS:World)(AB FB:Nat)(fv:Value)(N:Nat)(k:Nat)(w:World):Prop where
 ex:Ex wS w
 c:w.cell? (AB,0)=some (.int .i64 k)
 f:w.frozen? (AB,0)=false
 fb:w.cell? (FB,0)=some fv
 ne:AB≠FB
 lb:wS.heap.size<=AB
 le:k<=N
section
variable {wS w w':World} {AB FB N k:Nat} {fv:Value}
theorem Gh.stt:VO (Gh wS AB FB fv N) (Ux AB) where
 ex:=fun s w w' h hx=>⟨h.ex.trans hx,hx.cell h.c,hx.frz h.c h.f,hx.cell h.fb,h.ne,h.lb,h.le⟩
 lt:=fun s w B h hd=>by rw[show B=AB from hd];exact World.block_lt_of_cell? _ _ h.c
 dx:=fun s w w' B h hx hd=>hd
theorem Gh.next(h:Gh wS AB FB fv N k w)(hk:k<N):Gh wS AB FB fv N (k+1) (w.setCell (AB,0) (.int .i64 ((k:Int)+1)))/\AR (Ux AB) w (w.setCell (AB,0) (.int .i64 ((k:Int)+1))):=
 ⟨⟨h.ex.setCell (p:=⟨AB,0,none⟩) h.lb _,by rw[World.cell?_setCell_same _ _ _ h.c];simp,by rw[AC];exact h.f,by rw[Ah h.ne];exact h.fb,h.ne,h.lb,hk⟩,Fs rfl fun X h=>h⟩
end
theorem zdm{P:Prop}(h:P:=by
 rw[<-Nat.add_assoc]at this;exact this):P:=h
theorem PB{w:World}{v:Value}{es:List Rf}(h:Yt w v es):∃a cap,v= .slice a es.length cap/\cap<=maxLen/\es.length<=cap/\(0<es.length->∃b o,a=some ⟨b,o,none⟩/\∀i,i<es.length->∃mv,w.cell? ⟨b,o+i*4,none⟩=some (.int .i64 (es.getD i Sw).tp)/\w.cell? ⟨b,o+i*4+1,none⟩=some (.int .i64 (es.getD i Sw).sc)/\w.cell? ⟨b,o+i*4+2,none⟩=some (.int .i64 (es.getD i Sw).side)/\w.cell? ⟨b,o+i*4+3,none⟩=some mv/\Ak w mv (es.getD i Sw).msg):=by
 obtain⟨mvs,h1,⟨h2,a,cap,h3,h4,h5,h6⟩,h7⟩:=h;refine⟨a,cap,h3,h5,h4,fun hn=>?_⟩;obtain⟨b,o,h8,h9⟩:=h6 hn;refine⟨b,o,h8,fun i hi=>?_⟩;have aA:∀(es:List Rf) (mvs:List Value),mvs.length=es.length->∀i,i<es.length->∀j,j<4->(PM es mvs)[i*4+j]?=(((es.getD i Sw).cells (mvs.getD i undef)))[j]?:=fun es=>by
  induction es with
  | nil=>intro mvs _ i hi;simp at hi
  | cons e es ih=>
   intro mvs hm i hi j hj
   cases mvs with
   | nil=>simp at hm
   | cons u mvs=>
    show(e.cells u++PM es mvs)[i*4+j]?=_
    cases i with
    | zero=>rw[List.getElem?_append_left (by simp[Rf.cells];omega)];simp
    | succ i=>
     rw[List.getElem?_append_right (by simp[Rf.cells];omega)];have:=ih mvs (by simpa using hm) i (by simpa using hi) j hj;rw[show(i+1)*4+j-(e.cells u).length=i*4+j from by simp[Rf.cells];omega,this];simp
 have aB:mvs[i]?=some (mvs.getD i undef):=by
  exact zc2
 have aC:es[i]?=some (es.getD i Sw):=by
  rw[List.getD_eq_getElem?_getD,List.getElem?_eq_getElem hi];rfl
 refine⟨mvs.getD i undef,?_,?_,?_,?_,h7 i _ _ aC aB⟩
 .have:=h9 (i*4+0) _ (aA es mvs h1 i hi 0 ac);exact this
 .have:=h9 (i*4+1) _ (aA es mvs h1 i hi 1 ac);exact zdm
 .have:=h9 (i*4+2) _ (aA es mvs h1 i hi 2 ac);exact zdm
 .have:=h9 (i*4+3) _ (aA es mvs h1 i hi 3 ac);exact zdm
structure CkE(p m:Nat)(ml:List Int)(l1 l2:List (List Int))(n A b x0 RB SB:Nat)(v1 v2 ev:Value)(es:List Rf)(wS:World):Prop where
 pr:Mw wS A b n v1 v2
 gf:Bh wS b p m ml x0
 m1:B6 wS v1 l1
 m2:B6 wS v2 l2
 x1:1<=x0
 x2:x0<p^m
 n64:n<=64
 r1:∀r∈l1,r.length=n
 r2:∀r∈l2,r.length=n
 k1:l1.length<=256
 k2:l2.length<=256
 rb:wS.cell? (RB,0)=some ev
 sb:wS.cell? (SB,0)=some (.pointer (some (A,0)))
 rs:Yt wS ev es
theorem zbu{P:Prop}(h:P:=by
 subst hy;go_wp2_with (go_at_call 182;refine aB.o.mono ?_;rintro e9 w9⟨rfl,aD⟩;have aF:=Aa aD;clear aD)
 go_ret;exact⟨rfl,Gh.stt.ex _ _ _ aG.o aF.o,aS.o.trans (Gh.stt.keeps aG.o aF.o)⟩):P:=h
theorem zbs{P:Prop}(h:P:=by
 rw[if_neg (by simp)]at hy;exact zbu):P:=h
theorem zbS{P:Prop}(h:P:=by
 obtain⟨y2,y3,b0,s0,a4⟩:=aI.o
 go_quiet (fail)
 go_wp2_with fail
 go_meet
 exact⟨by rw[aO.o],Aa ((Ex.refl _).drewN _)⟩):P:=h
theorem zbJ{P:Prop}(h:P:=by
 clear hA hBm;exact zbS):P:=h
theorem zbL{P:Prop}(h:P:=by
 clear hA;exact zbS):P:=h
theorem JO{p m:Nat}{ml:List Int}{l1 l2:List (List Int)}{n A b x0 RB SB AB FB:Nat}{v1 v2 ev:Value}{es:List Rf}{wS:World}(H:CkE p m ml l1 l2 n A b x0 RB SB v1 v2 ev es wS)(fv:Value)
  (k:Nat) (w:World) (tl sl:List Int) (tv sv:Value) (X:Nat × Int) (cM:tl.length<=n) (bW:sl.length=tl.length) (bZ:BW tl n=true) (cA:k≠0->tl≠ []) (hs:Gh wS AB FB fv es.length k w) (ht:Da (Ux AB) w tv tl) (bK:Da (Ux AB) w sv sl)
  (hX:tl.length<n->∀w',Gh wS AB FB fv es.length (k+1) w'->Da (Ux AB) w' tv tl->Da (Ux AB) w' sv sl->Calls Tryz.prog 181 #[(A,0),.agg #[tv,sv],fv] w' fun r w''=>r= .returned (.int .i64 X.2)/\Gh wS AB FB fv es.length X.1 w''/\AR (Ux AB) w' w''):
  Calls Tryz.prog 180 #[.agg #[tv,sv],(AB,0),(RB,0),(SB,0),(FB,0)] w fun r w'=>r= .returned (.int .i64 (YI p m ml l1 l2 n es k tl sl X).2)/\Gh wS AB FB fv es.length (YI p m ml l1 l2 n es k tl sl X).1 w'/\AR (Ux AB) w w':=by
 obtain⟨b0,b1,e1,aT⟩:=AQ w tv sv;have aC:=Aa (Gh.stt.ex _ _ _ hs e1);have bA:=Aa (Gh.stt.keeps hs e1);have cH:=Aa (ht.keep bA.o);have cF:=Aa (bK.keep bA.o);obtain⟨ea,ec,rfl,cT,cP,aE⟩:=PB H.rs;unfold maxLen at cT;obtain⟨ta,tc,rfl,-,t2,t3⟩:=ht.1.open;obtain⟨sa,sc,rfl,-,s2,s3⟩:=bK.1.open;unfold maxLen at t2 s2;obtain⟨B,hB⟩:=nA w.heap.size;rw[hB]at b0 b1;have cK:=Aa (Gh.stt.new hs e1 (B:=B) ac);have c0:=aC.o.c;have r0:=aC.o.ex.cell H.rb;obtain⟨HH,HX,HC,dC,dD,cI⟩:=Ty H hX aE bZ cA bW;have cR:=hs.le;obtain⟨N,hN⟩:=nA es.length;have HNN:=Aa hN;obtain⟨Y,hY⟩:=nA (YI p m ml l1 l2 n es k tl sl X);have bD:=hY;unfold YI at bD;rw[hN]at bD cR r0 HC cP aC HX ⊢;rw[hY];have aA:=Aa bD;clear hs ht bK H hX bZ cA bW e1 aT aE hY bD t3 s3;go_enter Tryz.func180,Tryz.ntmps180
 go_upto_region 1 with fail
 try simp only[hB]
 clear hB;generalize w.alloc (.cells #[(ta,tl.length,tc),(sa,sl.length,sc)] 71)=w1 at *;by_cases h0:k=N
 .have cV:((k:Int)==(N:Int))=true:=by simp;omega
  have bM:(k==N)=true:=aq;have hy:=aA.o;rw[if_pos h0]at hy;subst hy;clear h0;go_wp2_with fail
  go_ret;exact⟨rfl,aC.o,bA.o⟩
 .have cV:((k:Int)==(N:Int))=false:=by simp;omega
  have bM:(k==N)=false:=aq;have cS:k<N:=ac;have hy:=aA.o;rw[if_neg h0]at hy;have aA:=Aa hy;obtain⟨eb,eo,rfl,cC⟩:=HC.o ac;obtain⟨mv,q0,q1,q2,q3,bC⟩:=cC k ac;obtain⟨e,he⟩:=nA (es.getD k Sw);rw[he]at q0 q1 q2 bC hy;have aA:=Aa hy;replace q0:=aC.o.ex.cell q0;replace q1:=aC.o.ex.cell q1;replace q2:=aC.o.ex.cell q2;replace q3:=aC.o.ex.cell q3;have dE:=Aa bC;obtain⟨ma,mc,rfl,-,m2,-⟩:=bC.open;unfold maxLen at m2;have j1:(0:Int)<=(k:Int):=bz;have j2:(k:Int)<(N:Int):=ac;clear h0 hy bC cC he;have hnc:Hia (True):=Aa (trivial);go_upto_region 4 with fail
  obtain⟨XB,aR⟩:∃B,w1.heap.size=B:=⟨_,rfl⟩;have e2:=AF w1 (.cells #[e.tp,e.sc,e.side,(ma,e.msg.length,mc)] 176);have y0:(w1.alloc (.cells #[e.tp,e.sc,e.side,(ma,e.msg.length,mc)] 176)).cell? (XB,0)=some (.int .i64 e.tp):=by rw[<-aR];simp
  have y1:(w1.alloc (.cells #[e.tp,e.sc,e.side,(ma,e.msg.length,mc)] 176)).cell? (XB,1)=some (.int .i64 e.sc):=by rw[<-aR];simp
  have y2:(w1.alloc (.cells #[e.tp,e.sc,e.side,(ma,e.msg.length,mc)] 176)).cell? (XB,2)=some (.int .i64 e.side):=by rw[<-aR];simp
  have y3:(w1.alloc (.cells #[e.tp,e.sc,e.side,(ma,e.msg.length,mc)] 176)).cell? (XB,3)=some (.slice ma e.msg.length mc):=by rw[<-aR];simp
  obtain⟨cJ,bF,bI,aY⟩:=Of (Gh.stt.new aC.o e2 (B:=XB) ac) (Gh.stt.ex _ _ _ aC.o e2) (Gh.stt.keeps aC.o e2) (fun hd=>cK.o (Gh.stt.dx _ _ _ _ aC.o e2 hd));have bR:=Aa (cH.o.keep bI.o);have bP:=Aa (cF.o.keep bI.o);replace b0:=e2.cell b0;replace b1:=e2.cell b1;replace c0:=e2.cell c0;clear r0 q0 q1 q2 q3
  try simp only[aR]
  clear aR e2;generalize w1.alloc (.cells #[e.tp,e.sc,e.side,(ma,e.msg.length,mc)] 176)=w2 at *;obtain⟨T,hT⟩:=nA (Nf k tl);obtain⟨U,hU⟩:∃T,Nf k sl=T:=⟨_,rfl⟩;have hy:=aA.o;rw[hT,hU]at hy;obtain⟨aA,Y0,Y1,Y2,Y3,B0,B1⟩:=To hy y0 y1 y2 y3 b0 b1;clear hy;go_upto_if 25 with fail
  go_cut [8,9] from 24 to 37 (fun s8 s9 wx=>s8= .int .i64 T/\s9= .int .i64 U/\Hia (Ex w2 wx))
  case first=>
   by_cases hk0:k=0
   .have cU:decide ((k:Int) > 0)=false:=by simp;omega
    have bL:decide ((0:Int)<(k:Int))=false:=aq;have aW:decide (0<k)=false:=aq;have cQ:¬0<k:=ac;have aX:Hia (T=0/\U=0):=Aa (by rw[<-hT,<-hU];unfold Nf;rw[if_pos hk0,if_pos hk0];exact⟨rfl,rfl⟩);clear hT hU hk0;go_wp2_with fail
    go_meet
    exact⟨by rw[aX.o.1],by rw[aX.o.2],Aa (Ex.refl _)⟩
   .have cU:decide ((k:Int) > 0)=true:=by simp;omega
    have bL:decide ((0:Int)<(k:Int))=true:=aq;have aW:decide (0<k)=true:=aq;have cQ:0<k:=ac;have aU:=dD.o hk0;have aV:0<tl.length:=List.length_pos_iff.2 aU;obtain⟨z,aT⟩:∃z,tl.length=z+1:=⟨tl.length-1,ac⟩;have bU:sl.length=z+1:=by rw[cI.o,aT]
    have aX:Hia (tl.getD z 0=T/\sl.getD z 0=U):=Aa (by
     rw[<-hT,<-hU];unfold Nf;rw[if_neg hk0,if_neg hk0,aT,bU];exact⟨rfl,rfl⟩)
    obtain⟨_,_,cN,-,-,t3⟩:=bR.o.1.open;injection cN with hta1 hta2 hta3;subst hta1;obtain⟨_,_,cO,-,-,s3⟩:=bP.o.1.open;injection cO with hsa1 hsa2 hsa3;subst hsa1;obtain⟨tb,bB,rfl,bV⟩:=t3 aV;obtain⟨sb,so,rfl,bY⟩:=s3 ac;have cX:=bV z T (by rw[<-aX.o.1];exact AZ ac);have cY:=bY z U (by rw[<-aX.o.2];exact AZ ac);have hz64:z<=63:=by have:=HH.o.n64;omega
    have dH:Hia (wrap64 ((tl.length:Int)-1)=(z:Int)):=Aa (by rw[show(tl.length:Int)-1=(z:Int) from ac];exact w64 ac ac);have dG:Hia (IntKind.i64.wrap ((tl.length:Int)-1)=(z:Int)):=Aa (by rw[show(tl.length:Int)-1=(z:Int) from ac];exact IntWalk.i64_in _ ac);have k1:(0:Int)<=(z:Int):=by omega
    have k2:(z:Int)<(tl.length:Int):=ac;have k4:(z:Int)<(sl.length:Int):=ac;clear hT hU hk0 aU bV bY hta2 hta3 hsa2 hsa3 aV aT bU t3 s3 y0 y1 y2 y3;go_wp2_with fail
    have i6:=dH.o;have i7:=dG.o;have aI:=Aa (show w2.cell? (B,0)=some (.slice (some (tb,bB)) tl.length tc)/\w2.cell? (B,1)=some (.slice (some (sb,so)) sl.length sc)/\w2.cell? (tb,bB+z)=some (.int .i64 T)/\w2.cell? (sb,so+z)=some (.int .i64 U) from⟨b0,b1,cX,cY⟩)
    go_region_held3 (fun w'=>w'.cell? (B,0)=some (.slice (some (tb,bB)) tl.length tc)/\w'.cell? (B,1)=some (.slice (some (sb,so)) sl.length sc)/\w'.cell? (tb,bB+z)=some (.int .i64 T)/\w'.cell? (sb,so+z)=some (.int .i64 U)) (exact aI.o) (fail)
    clear i6 i7;go_wp2_with fail
    go_meet
    exact⟨rfl,rfl,Aa ((Ex.refl _).drew)⟩
  case rest=>
   obtain⟨rfl,rfl,hx⟩:=hcut;have aJ:=Aa hx.o;have bS:=Aa (Gh.stt.ex _ _ _ bF.o aJ.o);have bH:=Aa (Gh.stt.keeps bF.o aJ.o);clear hx y0 y1 y2 y3 b0 b1 c0 hT hU;obtain⟨bX,cB⟩:=bS.o.next cS;have aM:=Aa bX;have aK:=Aa cB;have c0:=bS.o.c;have f0:=bS.o.f;have aH:=Aa (fun hd=>cJ.o (Gh.stt.dx _ _ _ _ bF.o aJ.o hd));have aP:=Aa (fun hd=>aY.o (Gh.stt.dx _ _ _ _ bF.o aJ.o hd));have y0:=aK.o.cell aH.o (aJ.o.cell Y0.o);have y1:=aK.o.cell aH.o (aJ.o.cell Y1.o);have y2:=aK.o.cell aH.o (aJ.o.cell Y2.o);have y3:=aK.o.cell aH.o (aJ.o.cell Y3.o);have b0:=aK.o.cell aP.o (aJ.o.cell B0.o);have b1:=aK.o.cell aP.o (aJ.o.cell B1.o);have bQ:=Aa ((bR.o.keep bH.o).keep aK.o);have bO:=Aa ((bP.o.keep bH.o).keep aK.o);have aZ:=Aa (bA.o.trans (bI.o.trans (bH.o.trans aK.o)));have s0:=aM.o.ex.cell HH.o.sb;have a4:=aM.o.ex.cell HH.o.pr.c4;have fb:=aM.o.fb;have hkm:(k:Int)+1<=9223372036854775807:=ac;clear bX cB bH cJ aH cK aY aP Y0 Y1 Y2 Y3 B0 B1 cH cF bR bP aC bA bI aK;obtain⟨wD,bJ⟩:=nA (wc.setCell (AB,0) (.int .i64 ((k:Int)+1)));rw[bJ]at aM y0 y1 y2 y3 b0 b1 bQ bO aZ s0 a4 fb;go_upto_region 9 with fail
   try simp only[bJ]
   clear bJ c0 f0;by_cases h1:e.tp=T/\e.sc=U
   .obtain⟨aL,bN⟩:=h1;have n1:(e.tp !=T)=false:=by simp[aL]
    have n2:(e.sc !=U)=false:=by simp[bN]
    have hy:=aA.o;rw[if_neg (by simp[aL,bN])]at hy;have aA:=Aa hy;clear aL bN hy;obtain⟨Lm,bE⟩:∃L,e.msg.length=L:=⟨_,rfl⟩;have dF:=Aa bE;have hy:=aA.o;rw[bE]at y3 hy;have aA:=Aa hy;simp only[bE];clear bE hy;obtain⟨Q,hQ⟩:=nA (decide (e.side=-1/\Lm=0/\tl.length<n));have HQ:=Aa hQ;have aI:=Aa (show wD.cell? (XB,2)=some (.int .i64 e.side)/\wD.cell? (XB,3)=some (.slice ma Lm mc)/\wD.cell? (B,0)=some (.slice ta tl.length tc)/\wD.cell? (SB,0)=some (.pointer (some (A,0)))/\wD.cell? (A,4)=some (.int .i64 n) from⟨y2,y3,b0,s0,a4⟩);clear hQ;go_upto_region 11 with fail
    go_cut [51] from 52 to 93 (fun cL wx=>cL= .bool Q/\Hia (Ex wD wx))
    case first=>
     clear y0 y1 y2 y3 b0 b1 s0 a4 fb;by_cases hA:e.side=-1
     .have a1:(e.side==-1)=true:=by simpa using hA
      by_cases hBm:Lm=0
      .have a2:((Lm:Int)==0)=true:=by simp;omega
       have cZ:(Lm==0)=true:=by simpa using hBm
       by_cases hCm:tl.length<n
       .have a3:decide ((tl.length:Int)<(n:Int))=true:=by simp;omega
        have cW:decide (tl.length<n)=true:=by simpa using hCm
        have aO:Hia (Q=true):=Aa (by rw[<-HQ.o];exact decide_eq_true ⟨hA,hBm,hCm⟩);exact zbJ
       .have a3:decide ((tl.length:Int)<(n:Int))=false:=by simp;omega
        have cW:decide (tl.length<n)=false:=by simpa using hCm
        have aO:Hia (Q=false):=Aa (by rw[<-HQ.o];exact decide_eq_false fun h=>hCm h.2.2);exact zbJ
      .have a2:((Lm:Int)==0)=false:=by simp;omega
       have cZ:(Lm==0)=false:=by simpa using hBm
       have aO:Hia (Q=false):=Aa (by rw[<-HQ.o];exact decide_eq_false fun h=>hBm h.2.1);exact zbL
     .have a1:(e.side==-1)=false:=by simpa using hA
      have aO:Hia (Q=false):=Aa (by rw[<-HQ.o];exact decide_eq_false fun h=>hA h.1);exact zbL
    case rest=>
     obtain⟨rfl,hx⟩:=hcut;have aN:=Aa hx.o;have aG:=Aa (Gh.stt.ex _ _ _ aM.o aN.o);have bG:=Aa (Gh.stt.keeps aM.o aN.o);have cG:=Aa (bQ.o.keep bG.o);have cE:=Aa (bO.o.keep bG.o);have aS:=Aa (aZ.o.trans bG.o);have y2':=aN.o.cell aI.o.1;have y3':=aN.o.cell aI.o.2.1;have b0':=aN.o.cell aI.o.2.2.1;have b1':=aN.o.cell b1;have s0':=aN.o.cell aI.o.2.2.2.1;have fb':=aN.o.cell fb;clear hx y0 y1 y2 y3 b0 b1 s0 a4 fb aI aM bQ bO aZ bG;have hy:=aA.o
     cases Q with
     | true=>
      have hq:=of_decide_eq_true HQ.o;rw[if_pos hq]at hy;subst hy;have dA:=Aa (HX.o hq.2.2 _ aG.o cG.o cE.o);clear hq HX;go_wp2_with (go_at_call 181;refine dA.o.mono ?_;rintro e9 w9⟨rfl,h9,cD⟩;have H9:=Aa h9;have dI:=Aa cD;clear h9 cD)
      go_ret;exact⟨rfl,H9.o,aS.o.trans dI.o⟩
     | false=>
      have hq:=of_decide_eq_false HQ.o;rw[if_neg hq]at hy;have aA:=Aa hy;clear hq hy HX;have aQ:=aG.o.ex;have aB:=Aa (UH wc (HH.o.gf.ex aQ) HH.o.x1 HH.o.x2 A n HH.o.n64 v1 v2 (HH.o.pr.ex aQ) l1 l2 (HH.o.m1.ex aQ) (HH.o.m2.ex aQ) HH.o.r1 HH.o.r2 HH.o.k1 HH.o.k2 tl sl _ _ cG.o.1 cE.o.1 cI.o cM dC.o e.side e.msg _ (dE.o.ex aQ));rw[dF.o]at aB;obtain⟨W,hW⟩:=nA (Wc p m ml l1 l2 tl sl e.side e.msg);rw[hW]at aB;have hy:=aA.o;rw[hW]at hy;have aA:=Aa hy;clear hW hy aQ;by_cases hs0:e.side=0
      .have a1:(e.side==0)=true:=by simpa using hs0
       have hy:=aA.o;have dB:=Aa hs0;clear hs0
       cases W with
       | true=>
        rw[if_pos ⟨.inl dB.o,rfl⟩]at hy;exact zbu
       | false=>
        exact zbs
      .have a1:(e.side==0)=false:=by simpa using hs0
       by_cases hs1:e.side=1
       .have a2:(e.side==1)=true:=by simpa using hs1
        have hy:=aA.o;have bT:=Aa hs1;clear hs0 hs1
        cases W with
        | true=>
         rw[if_pos ⟨.inr bT.o,rfl⟩]at hy;exact zbu
        | false=>
         exact zbs
       .have a2:(e.side==1)=false:=by simpa using hs1
        have hy:=aA.o;rw[if_neg (by
         rintro⟨h|h,_⟩
         .exact hs0 h
         .exact hs1 h)]at hy
        subst hy;clear hs0 hs1;go_wp2_with fail
        go_ret;exact⟨rfl,aG.o,aS.o⟩
   .have hy:=aA.o;rw[if_pos (by
     by_cases h:e.tp=T
     .exact .inr fun h2=>h1 ⟨h,h2⟩
     .exact .inl h)]at hy
    subst hy;by_cases aL:e.tp=T
    .have n1:(e.tp !=T)=false:=by simp[aL]
     have n2:(e.sc !=U)=true:=by simp;exact fun h2=>h1 ⟨aL,h2⟩
     clear h1 aL;go_wp2_with fail
     go_ret;exact⟨rfl,aM.o,aZ.o⟩
    .have n1:(e.tp !=T)=true:=by simpa using aL
     clear h1 aL;go_wp2_with fail
     go_ret;exact⟨rfl,aM.o,aZ.o⟩
def Jj(AB RB SB FB:Nat):Value:= .func (.func 180) #[] #[(AB,0),(RB,0),(SB,0),(FB,0)]
theorem Sj{p m:Nat}{ml:List Int}{l1 l2:List (List Int)}{n A b x0 RB SB AB FB:Nat}{v1 v2 ev:Value}{es:List Rf}{wS:World}(H:CkE p m ml l1 l2 n A b x0 RB SB v1 v2 ev es wS):
  ∀(d k:Nat) (w:World) (tl sl:List Int) (tv sv:Value),tl.length+d=n->sl.length=tl.length->BW tl n=true->(k≠0->tl≠ [])->Gh wS AB FB (Jj AB RB SB FB) es.length k w->Da (Ux AB) w tv tl->Da (Ux AB) w sv sl->
  Calls Tryz.prog 180 #[.agg #[tv,sv],(AB,0),(RB,0),(SB,0),(FB,0)] w fun r w'=>r= .returned (.int .i64 (flF p m ml l1 l2 n es d k tl sl).2)/\Gh wS AB FB (Jj AB RB SB FB) es.length (flF p m ml l1 l2 n es d k tl sl).1 w'/\AR (Ux AB) w w':=by
 intro d
 induction d with
 | zero=>
  intro k w tl sl tv sv hd aA aB aD hs ht aC;show Calls _ _ _ _ fun r w'=>r= .returned (.int .i64 (YI p m ml l1 l2 n es k tl sl (k+1,13)).2)/\Gh wS AB FB (Jj AB RB SB FB) es.length (YI p m ml l1 l2 n es k tl sl (k+1,13)).1 w'/\AR (Ux AB) w w'
  exact JO H (Jj AB RB SB FB) k w tl sl tv sv _ ac aA aB aD hs ht aC fun h=>absurd hd ac
 | succ d ih=>
  intro k w tl sl tv sv hd aA aB aD hs ht aC;show Calls _ _ _ _ fun r w'=>r= .returned (.int .i64 (YI p m ml l1 l2 n es k tl sl (Ek (flF p m ml l1 l2 n es d) (p^m) tl sl n (k+1))).2)/\Gh wS AB FB (Jj AB RB SB FB) es.length (YI p m ml l1 l2 n es k tl sl (Ek (flF p m ml l1 l2 n es d) (p^m) tl sl n (k+1))).1 w'/\AR (Ux AB) w w'
  refine JO H (Jj AB RB SB FB) k w tl sl tv sv _ ac aA aB aD hs ht aC fun hn w' hb aH aJ=>?_;have hq:=H.gf.sh.q;have hq2:=H.gf.sh.p2;have hN64:=H.n64;exact ext_fol Gh.stt (flF p m ml l1 l2 n es d) w' A b n (p^m) (Nat.pow_pos ac) hq H.n64 _ _ _ _ tl sl tv sv (fun s1 w1 h1=>⟨h1.ex.cell H.pr.c0,h1.ex.cell H.pr.c4,Cv w1 (H.gf.ex h1.ex)⟩) (fun s1 w1 j c aE aF h1 hj hc hc1 hcq aG aI=>ih s1 w1 (tl ++ [(j:Int)]) (sl ++ [(c:Int)]) aE aF (by rw[List.length_append];simp;omega) (by simp[aA]) (IZ aB hj) (fun _=>ag) h1 aG aI) ac ac _ hb aH aJ
end Go.Proofs.YtehieobniamagaaGreat
