/- Walk of matrix.eliminate. -/
import Derived.Test.YtehieobniamagaaGreatZa10
namespace Go.Proofs.YtehieobniamagaaGreat
set_option linter.all false
set_option maxRecDepth 100000
set_option maxHeartbeats 16000000
open Go.RowKit
def OI(p m:Nat)(ml:List Int)(N R:Nat)(a a':Nat->Nat->Int)(piv:List Nat):Prop:=
 ∃c,c<=N/\PV p m R N a' piv c/\(piv.length=R∨c=N)/\∀x,Ez p m ml N R a' x↔Ez p m ml N R a x
theorem zbc{P:Prop}(h:P:=by
 go_wp2_with fail
 go_roundw
 case rel=>first|exact⟨i+1,aK,aJ,a4,by omega,by go_num,aC,bO,aN,aG,aH,aM⟩|((repeat apply Exists.intro);exact⟨⟨i+1,aK,aJ,a4,by omega,by go_num,aC,bO,aN,aG,aH,aM⟩,rfl⟩)
 case measure=>simp[intOf];omega):P:=h
theorem zbY{P:Prop}(h:P:=by
 go_wp2_with fail
 go_ret2;exact⟨piv,_,_,_,_,_,rfl,eB.o,HE.o,dY.o,dR.o,dW.o⟩):P:=h
theorem T8{p m:Nat}{ml:List Int}{b x0:Nat}(w0 w:World)(hg:AP w0 b p m ml x0)(dJ:1<=x0)(dI:x0<p^m)(aZ:Ex w0 w){base g R N:Nat}{blk cap:Nat->Nat}{a:Nat->Nat->Int}(h:EM w base g R N blk cap a [])(hb:w0.heap.size<=base)(hN:N<=256)(hR:R<=256)(cK:R4 p m R N a):
  Calls Tryz.prog 203 #[.pointer (some ⟨b,0,none⟩),.slice (some ⟨g,0,none⟩) R R,.int .i64 N,.slice none 0 0] w fun r w'=>∃piv pv bH bV bT a',r= .returned (.tuple #[pv,.int .i64 bH])/\EM w' base g R N bV bT a' []/\OI p m ml N R a a' piv/\Aj w' pv (pI piv)/\Ex w0 w'/\∀B,pv.ownBlock=some B->base<=B:=by
 have p2:=hg.sh.p2;have m1:=hg.sh.m1;have HG:=Aa hg;have HF:=Aa (hg.isF dJ dI);have eS:=Aa (show 1<=x0/\x0<p^m from⟨dJ,dI⟩);obtain⟨B4,cF⟩:=nA w.heap.size;have h1:=(h.box (.cells #[.pointer (some ⟨b,0,none⟩)] 97)).box (.cells #[.slice (some ⟨g,0,none⟩) R R] 37);have h2:=h1.box (.cells #[.slice none 0 0] 37);have e4:((w.alloc (.cells #[.pointer (some ⟨b,0,none⟩)] 97)).alloc (.cells #[.slice (some ⟨g,0,none⟩) R R] 37)).heap.size=B4+1+1:=by simp[cF]
 have e5:(w.alloc (.cells #[.pointer (some ⟨b,0,none⟩)] 97)).heap.size=B4+1:=by simp[cF]
 rw[e4,e5,cF]at h2;have eX:Hia (EB w0 (((w.alloc (.cells #[.pointer (some ⟨b,0,none⟩)] 97)).alloc (.cells #[.slice (some ⟨g,0,none⟩) R R] 37)).alloc (.cells #[.slice none 0 0] 37)) base g R N blk cap a (AV (.slice none 0 0) B4 (B4+1) (B4+1+1)) B4 (B4+1) (B4+1+1) b (.slice none 0 0) []):=by
  refine Aa ⟨h2.less fun B hB=>?_,by unfold AV;simp,by unfold AV;simp,by unfold AV;simp,?_,?_,?_,World.ownsRow_nil _ _ _ _,fun B hB=>(by cases hB),((aZ.alloc _).alloc _).alloc _,hb⟩
  .unfold AV at hB;simp[Value.ownBlock]at hB;rcases hB with rfl|rfl|rfl <;> simp
  .rw[World.cell?_alloc_lt _ _ _ (by rw[e4];show B4<_;omega),World.cell?_alloc_lt _ _ _ (by rw[e5];show B4<_;omega)];exact AK _ _ _ cF
  .rw[World.cell?_alloc_lt _ _ _ (by rw[e4];show B4+1<_;omega)];exact AK _ _ _ e5
  .exact AK _ _ _ e4
 have fN:=Aa cK;have eD:=Aa (show w0.heap.size<=B4 from by have:=aZ.size;omega);clear h1 h2 h cK hg dJ dI hb aZ;go_enter Tryz.func203,Tryz.ntmps203
 go_wp2_with fail
 try simp only[cF,e5,e4]
 generalize (((w.alloc (.cells #[.pointer (some ⟨b,0,none⟩)] 97)).alloc (.cells #[.slice (some ⟨g,0,none⟩) R R] 37)).alloc (.cells #[.slice none 0 0] 37))=w3 at *;have eN:=Aa (show PV p m R N a [] 0 from PV.init fN.o);have eL:=Aa (show ∀x,Ez p m ml N R a x↔Ez p m ml N R a x from fun x=>Iff.rfl);clear e4 e5 cF
 go_loopw [10,12,13] (fun d' pv c' wr=>∃(c:Nat) (piv:List Nat) (bH:Int) (bV bT:Nat->Nat) (a':Nat->Nat->Int),c<=N/\c'= .int .i64 c/\d'= .int .i64 bH/\Hia (EB w0 wr base g R N bV bT a' (AV pv B4 (B4+1) (B4+1+1)) B4 (B4+1) (B4+1+1) b pv piv)/\Hia (PV p m R N a' piv c)/\Hia (∀x,Ez p m ml N R a' x↔Ez p m ml N R a x)) (fun _ _ c' _=>N-(intOf c').toNat)
 case atStart=>exact⟨0, [],1,blk,cap,a,ac,rfl,rfl,eX,eN,eL⟩
 case round=>
  clear eX eN eL;obtain⟨c,piv,bH,bD,bC,a1,hc,rfl,rfl,aA,dA,aT⟩:=hrel;obtain⟨pa,pc,dL⟩:=Ab aA.o.pvo;subst dL;have c5:=aA.o.c5;have hple:=dA.o.le;have cZ:=Aa (show(piv.length=R∨c=N)->OI p m ml N R a a1 piv from fun h=>⟨c,hc,dA.o,h,aT.o⟩);have eB:=Aa (aA.o.em.less (bvs:= []) (fun B hB=>by cases hB));have dY:=Aa (show Aj wr (.slice pa piv.length pc) (pI piv) from by
   have:=Sl.own aA.o.pvo;unfold Aj;rw[S2];exact this)
  by_cases hcN:c<N
  .have b1:decide ((c:Int)<(N:Int))=true:=by simp;omega
   have b2:decide (c<N)=true:=aq;have b2':(c:Int)<(N:Int):=ac;by_cases hpR:piv.length<R
   .have b3:decide ((piv.length:Int)<(R:Int))=true:=by simp;omega
    have b4:decide (piv.length<R)=true:=aq;clear cZ eB dY;obtain⟨s,hs⟩:=nA piv.length;have HS:=Aa hs;rw[hs]at hpR b3 b4 aA ⊢;clear hs;obtain⟨Q,hQ⟩:=nA wr.heap.size;have cP:(wr.alloc (.cells #[.int .i64 s] 3)).heap.size=Q+1:=by simp[hQ]
    have bB:=aA.o.box (.cells #[.int .i64 s] 3);have aU:=bB.box (.cells #[.int .i64 s] 3);rw[cP,hQ]at aU;have aC:((wr.alloc (.cells #[.int .i64 s] 3)).alloc (.cells #[.int .i64 s] 3)).cell? ⟨Q,0,none⟩=some (.int .i64 s):=by
     rw[World.cell?_alloc_lt _ _ _ (by rw[cP];show Q<_;omega)];exact AK _ _ _ hQ
    have bU:((wr.alloc (.cells #[.int .i64 s] 3)).alloc (.cells #[.int .i64 s] 3)).cell? ⟨Q+1,0,none⟩=some (.int .i64 s):=AK _ _ _ cP;have cG:((wr.alloc (.cells #[.int .i64 s] 3)).alloc (.cells #[.int .i64 s] 3)).frozen? ⟨Q+1,0,none⟩=false:=EN _ _ _ cP;have fK:B4+1+1<Q:=by
     have:=(aA.o.em.av _ aA.o.i7).1;omega
    have eM:∀B,(Value.slice pa s pc).ownBlock=some B->B<Q:=fun B hB=>by
     have:=(aA.o.em.av B (aA.o.pvi B hB).1).1;omega
    obtain⟨fP,aL,cI,eZ,eY⟩:=Of eM aU aC bU cG;have dQ:(wr.alloc (.cells #[.int .i64 s] 3)).cell? ⟨Q,0,none⟩=some (.int .i64 s):=AK _ _ _ hQ;clear bB aU aA eM;go_upto_region 9 with fail
    clear aC bU cG dQ c5;generalize (wr.alloc (.cells #[.int .i64 s] 3)).alloc (.cells #[.int .i64 s] 3)=W2 at *;have dF:=Aa fK;have dV:=Aa dA.o;have eR:=Aa (show ∀k',s<=k'->k'<s->a1 k' c=0 from fun k' h1 h2=>ac);clear hQ cP dA
    go_loopg [] (R+1) (fun gk wr=>∃k:Nat,s<=k/\k<=R/\R+1-k<=gk/\wr.cell? ⟨Q+1,0,none⟩=some (.int .i64 k)/\wr.frozen? ⟨Q+1,0,none⟩=false/\wr.cell? ⟨Q,0,none⟩=some (.int .i64 s)/\
     Hia (EB w0 wr base g R N bD bC a1 ((Q+1) :: Q :: AV (.slice pa s pc) B4 (B4+1) (B4+1+1)) B4 (B4+1) (B4+1+1) b (.slice pa s pc) piv)/\Hia (∀k',s<=k'->k'<k->a1 k' c=0))
    case atStart=>exact⟨s,Nat.le_refl _,ac,ac,eZ.o,eY.o,cI.o,aL,eR⟩
    case round=>
     clear aL eR cI eZ eY;obtain⟨k,fH,hk2,fI,bU,cG,aC,aA,cJ⟩:=hrel;have c5:=aA.o.c5;by_cases hkR:k<R
     .have cg:=aA.o.em.cell hkR;have ce:=aA.o.em.ent hkR hcN;have i1:(0:Int)<=(k:Int):=by omega
      have i2:(k:Int)<(R:Int):=ac;have i3:(0:Int)<=(c:Int):=ac;by_cases hz:a1 k c=0
      .have fJ:(a1 k c==0)=true:=by simp[hz]
       have cH:=Aa (aA.o.setB (B:=Q+1) ag (by have:=dF.o;omega) (by have:=dF.o;omega) (by have:=dF.o;omega) (fun e=>by have:=fP.o _ e;omega) (by have:=eD.o;have:=dF.o;omega) (.int .i64 ((k:Int)+1)));have cS:(wr.setCell ⟨Q+1,0,none⟩ (.int .i64 ((k:Int)+1))).cell? ⟨Q+1,0,none⟩=some (.int .i64 ((k:Int)+1)):=World.cell?_setCell_same (h:=bU) ..;have aF:(wr.setCell ⟨Q+1,0,none⟩ (.int .i64 ((k:Int)+1))).cell? ⟨Q,0,none⟩=some (.int .i64 s):=by rw[Ah ac];exact aC
       have cR:(wr.setCell ⟨Q+1,0,none⟩ (.int .i64 ((k:Int)+1))).frozen? ⟨Q+1,0,none⟩=false:=by rw[World.frozen?_setCell];exact cG
       have fL:=Aa (show ∀k',s<=k'->k'<k+1->a1 k' c=0 from fun k' h1 h2=>by
        by_cases e:k'=k
        .rw[e];exact hz
        .exact cJ.o k' h1 ac)
       have eF:=Aa cS;have bF:=Aa aF;have eE:=Aa cR;clear hz aA cJ cS aF cR;go_wp2_with fail
       go_roundg (gk-1)
       case rel=>exact⟨k+1,ac,ac,ac,by rw[show((k+1:Nat):Int)=(k:Int)+1 by push_cast;rfl];exact eF.o,eE.o,bF.o,cH,fL⟩
       case measure=>omega
      .have fJ:(a1 k c==0)=false:=by simpa using hz
       have dK:((k:Int)==(R:Int))=false:=aq;have hq2:(k==R)=false:=aq;have bW:=Aa (show s<R/\s<=k/\k<R from⟨ac,fH,hkR⟩);have eV:=Aa hz;have eI:Q+1∈(Q+1) :: Q :: AV (.slice pa s pc) B4 (B4+1) (B4+1+1):=ag;have cN:Q∈(Q+1) :: Q :: AV (.slice pa s pc) B4 (B4+1) (B4+1+1):=ag;have fQ:=Aa eI;have cX:=Aa cN;clear hz cJ cG fI eI cN;go_upto_if 58 with fail
       clear cg ce
       go_cut [10] from 21 to 122 (fun d' wx=>∃(aV:Int) (aB aE:Nat->Nat) (a2:Nat->Nat->Int),d'= .int .i64 aV/\wx.cell? ⟨Q,0,none⟩=some (.int .i64 s)/\
        Hia (EB w0 wx base g R N aB aE a2 ((Q+1) :: Q :: AV (.slice pa s pc) B4 (B4+1) (B4+1+1)) B4 (B4+1) (B4+1+1) b (.slice pa s pc) piv)/\Hia (PV p m R N a2 piv c)/\Hia (∀x,Ez p m ml N R a2 x↔Ez p m ml N R a x)/\Hia (a2 s c≠0))
       case first=>
        by_cases hks:k=s
        .have fE:((k:Int) !=(s:Int))=false:=by simp[hks]
         have fD:(k !=s)=false:=by simp[hks]
         have bY:=Aa (show a1 s c≠0 from by rw[<-hks];exact eV.o);clear hks;go_wp2_with fail
         go_meet
         exact⟨bH,bD,bC,a1,rfl,aC,aA,dV,aT,bY⟩
        .have fE:((k:Int) !=(s:Int))=true:=by simp;omega
         have fD:(k !=s)=true:=aq;obtain⟨HE,HN,dU,cU,bY,cI⟩:=To (Ua wr aA.o.em (B4+1) (B4+1+1) (Q+1) Q s k bW.o.1 bW.o.2.2 (fun e=>hks e.symm) aA.o.i7 fQ.o cX.o aA.o.c5 aA.o.c7 bU aC) (fun wx (h:Ex w0 wx)=>MO wx (HG.o.ex h) bH) (show PV p m R N (E6 a1 s k) piv c from by have:=dV.o.swp (k:=k) (by rw[HS.o];exact bW.o.2.1) bW.o.2.2;rw[HS.o]at this;exact this) (show ∀x,Ez p m ml N R (E6 a1 s k) x↔Ez p m ml N R a x from fun x=>(Ez.swp bW.o.1 bW.o.2.2).trans (aT.o x)) (show E6 a1 s k s c≠0 from by unfold E6;rw[if_pos rfl];exact eV.o) aC;clear hks aC bU;go_wp2_with (first|(go_at_call 248;refine HE.o.mono ?_;rintro e wx aD;obtain⟨⟨t,rfl⟩,_⟩:=id aD;obtain⟨aB,aE,aU⟩:=aA.o.step aD;have c4n:=aU.c4;have aF:=aD.2.2.1.cell cX.o cI.o;have aL:=Aa aU;clear aD aU)|(go_at_call 158;refine(HN.o _ aL.o.ex).mono ?_;rintro e wy⟨rfl,n,rfl⟩))
         go_meet
         exact⟨_,aB,aE,_,rfl,((Ex.refl wx).drewN n).cell aF,Aa (aL.o.later ((Ex.refl wx).drewN n)),dU,cU,bY⟩
       case rest=>
        obtain⟨aV,aB,aE,a2,rfl,aC,aA,bA,aS,cM⟩:=hcut;have aR:=bW.o.1;obtain⟨bE,bK,bL,bN,bM⟩:=Of aC (aA.o.em.cell aR) (aA.o.em.ent aR hcN) aA.o.c4 aA.o.c5;obtain⟨r1,r2⟩:=bA.o.rng s aR c hcN;have dH:=JA r1 r2;obtain⟨Z,hZ⟩:=nA (Az (p^m) (a2 s c));rw[hZ]at dH;have eK:1<=Z:=by have:=cM.o;omega
        have dO:Z<p^m:=by rw[<-hZ];exact Cr (Nat.pow_pos ac) _
        obtain⟨KI,dC⟩:∃K,Jz p m ml Z=K:=⟨_,rfl⟩;have bS:=Tu (ml:=ml) p2 m1 HF.o eK dO;have cQ:KI<p^m:=by rw[<-dC];exact Qp (Nat.pow_pos ac) _
        rw[dC]at bS;have cB:=Aa (show Ap p m (lw ml) Z KI=1/\KI<p^m/\a2 s c=Z/\Az (p^m) (a2 s c)=Z/\Z<p^m from⟨bS,cQ,dH.symm,hZ,dO⟩);have aQ:=Aa (show ∀w',Ex w0 w'->Calls Tryz.prog 250 #[.pointer (some ⟨b,0,none⟩),.int .i64 (a2 s c)] w' fun r w''=>r= .returned (.tuple #[.int .i64 (KI:Nat),.int .i64 0])/\∃n,w''=w'.drewN n from fun w' h=>by
         have:=Q7 w' (HG.o.ex h) eS.o.1 eS.o.2 (a2 s c);rw[hZ]at this;unfold Pn at this;rw[if_neg ac,dC]at this;exact this)
        obtain⟨KD,eO⟩:∃K,Ap p m (lw ml) (Az (p^m) aV) Z=K:=⟨_,rfl⟩;have cW:=Aa (show ∀w',Ex w0 w'->Calls Tryz.prog 106 #[.pointer (some ⟨b,0,none⟩),.int .i64 aV,.int .i64 (a2 s c)] w' fun r w''=>r= .returned (.int .i64 (KD:Nat))/\∃n,w''=w'.drewN n from fun w' h=>by
         have:=DC w' (HG.o.ex h) aV (a2 s c);rw[hZ,eO]at this;exact this)
        have i1:(0:Int)<=(s:Int):=ac;have i2:(s:Int)<(R:Int):=ac;have i3:(0:Int)<=(c:Int):=ac;clear hZ dC bS cQ eO r1 r2 dH eK dO aC bU c5;go_upto_region 15 with fail
        have E0:Ex wc wc.drew:=(Ex.refl wc).drew;have G0:Ex w0 wc.drew:=aA.o.ex.trans E0
        go_region_held3 (fun w'=>w'.cell? ⟨B4,0,none⟩=some (.pointer (some ⟨b,0,none⟩))/\w'.cell? ⟨B4+1,0,none⟩=some (.slice (some ⟨g,0,none⟩) R R)/\w'.cell? ⟨Q,0,none⟩=some (.int .i64 s)/\w'.cell? ⟨g,s,none⟩=some (.slice (some ⟨aB s,0,none⟩) N (aE s))/\w'.cell? ⟨aB s,c,none⟩=some (.int .i64 (a2 s c)))
         (first|with_reducible exact⟨E0.cell bN.o,E0.cell bM.o,E0.cell bE.o,E0.cell bK.o,E0.cell bL.o⟩|with_reducible exact⟨((Ex.refl wc).drewN _).cell bN.o,((Ex.refl wc).drewN _).cell bM.o,((Ex.refl wc).drewN _).cell bE.o,((Ex.refl wc).drewN _).cell bK.o,((Ex.refl wc).drewN _).cell bL.o⟩)
         ((go_at_call 106;(with_reducible refine(cW.o _ G0).mono ?_);rintro e wx1⟨rfl,n1,rfl⟩))
        clear E0 G0;go_upto_region 16 with fail
        have HD:=Aa (aA.o.later ((Ex.refl wc).drewN (1+n1)));have aY:=Aa (((Ex.refl wc).drewN (1+n1)).cell bE.o);clear bE bK bL bN bM aA cW;generalize wc.drewN (1+n1)=wd at *;obtain⟨bN,bM,bK,bL⟩:=Eq HD.o.c4 HD.o.c5 (HD.o.em.cell aR) (HD.o.em.ent aR hcN);have E0:Ex wd wd.drew:=(Ex.refl wd).drew;have G0:Ex w0 wd.drew:=HD.o.ex.trans E0;have eH:∀n,((wd.drewN n).alloc (.cells #[.int .i64 0] 3)).cell? ⟨wd.heap.size,0,none⟩=some (.int .i64 0):=fun n=>AK _ _ _ rfl;have fG:∀n,((wd.drewN n).alloc (.cells #[.int .i64 0] 3)).frozen? ⟨wd.heap.size,0,none⟩=false:=fun n=>EN _ _ _ rfl;have eG:(wd.alloc (.cells #[.int .i64 0] 3)).cell? ⟨wd.heap.size,0,none⟩=some (.int .i64 0):=AK _ _ _ rfl;have fF:(wd.alloc (.cells #[.int .i64 0] 3)).frozen? ⟨wd.heap.size,0,none⟩=false:=EN _ _ _ rfl;have cA:=Aa (show ∀(W:World) (u:Value),Ex wd W->(W.setCell ⟨wd.heap.size,0,none⟩ u).cell? ⟨B4,0,none⟩=some (.pointer (some ⟨b,0,none⟩))/\(W.setCell ⟨wd.heap.size,0,none⟩ u).cell? ⟨B4+1,0,none⟩=some (.slice (some ⟨g,0,none⟩) R R)/\(W.setCell ⟨wd.heap.size,0,none⟩ u).cell? ⟨Q,0,none⟩=some (.int .i64 s)/\(W.setCell ⟨wd.heap.size,0,none⟩ u).cell? ⟨g,s,none⟩=some (.slice (some ⟨aB s,0,none⟩) N (aE s))/\(W.setCell ⟨wd.heap.size,0,none⟩ u).cell? ⟨aB s,c,none⟩=some (.int .i64 (a2 s c)) from fun W u hW=>by
         have k1:=World.block_lt_of_cell? _ _ bN.o;have k2:=World.block_lt_of_cell? _ _ bM.o;have k3:=World.block_lt_of_cell? _ _ aY.o;have k4:=World.block_lt_of_cell? _ _ bK.o;have k5:=World.block_lt_of_cell? _ _ bL.o;dsimp only at k1 k2 k3 k4 k5;rw[Ah ac,Ah ac,Ah ac,Ah ac,Ah ac];exact⟨hW.cell bN.o,hW.cell bM.o,hW.cell aY.o,hW.cell bK.o,hW.cell bL.o⟩)
        have cC:=Aa (show ∀(W:World),Ex wd W->W.cell? ⟨B4,0,none⟩=some (.pointer (some ⟨b,0,none⟩))/\W.cell? ⟨B4+1,0,none⟩=some (.slice (some ⟨g,0,none⟩) R R)/\W.cell? ⟨Q,0,none⟩=some (.int .i64 s)/\W.cell? ⟨g,s,none⟩=some (.slice (some ⟨aB s,0,none⟩) N (aE s))/\W.cell? ⟨aB s,c,none⟩=some (.int .i64 (a2 s c)) from fun W hW=>⟨hW.cell bN.o,hW.cell bM.o,hW.cell aY.o,hW.cell bK.o,hW.cell bL.o⟩);have k7:=(HD.o.em.av _ HD.o.i7).1;have k4:=(HD.o.em.av _ HD.o.i4).1;have k5:=(HD.o.em.av _ HD.o.i5).1;have dZ:=Aa (show ∀n,EB w0 (((wd.drewN n).alloc (.cells #[.int .i64 0] 3)).setCell ⟨wd.heap.size,0,none⟩ (.int .i64 (KI:Nat))) base g R N aB aE a2 (wd.heap.size :: (Q+1) :: Q :: AV (.slice pa s pc) B4 (B4+1) (B4+1+1)) B4 (B4+1) (B4+1+1) b (.slice pa s pc) piv from fun n=>by
         have h:=(HD.o.later ((Ex.refl wd).drewN n)).box (.cells #[.int .i64 0] 3);exact h.setB (B:=wd.heap.size) (List.mem_cons_self ..) ac ac ac (fun e=>by have:=(HD.o.em.av _ (HD.o.pvi _ e).1).1;omega) (by have:=eD.o;omega) _)
        have eC:=Aa (show ∀n,(((wd.drewN n).alloc (.cells #[.int .i64 0] 3)).setCell ⟨wd.heap.size,0,none⟩ (.int .i64 (KI:Nat))).cell? ⟨wd.heap.size,0,none⟩=some (.int .i64 (KI:Nat)) from fun n=>World.cell?_setCell_same (h:=eH n) ..);have cD:=Aa (show ∀n,EB w0 (((wd.alloc (.cells #[.int .i64 0] 3)).drewN n).setCell ⟨wd.heap.size,0,none⟩ (.int .i64 (KI:Nat))) base g R N aB aE a2 (wd.heap.size :: (Q+1) :: Q :: AV (.slice pa s pc) B4 (B4+1) (B4+1+1)) B4 (B4+1) (B4+1+1) b (.slice pa s pc) piv from fun n=>by
         have h:=(HD.o.box (.cells #[.int .i64 0] 3)).later ((Ex.refl _).drewN n);exact h.setB (B:=wd.heap.size) (List.mem_cons_self ..) ac ac ac (fun e=>by have:=(HD.o.em.av _ (HD.o.pvi _ e).1).1;omega) (by have:=eD.o;omega) _)
        have cE:=Aa (show ∀n,(((wd.alloc (.cells #[.int .i64 0] 3)).drewN n).setCell ⟨wd.heap.size,0,none⟩ (.int .i64 (KI:Nat))).cell? ⟨wd.heap.size,0,none⟩=some (.int .i64 (KI:Nat)) from fun n=>World.cell?_setCell_same (h:=((Ex.refl _).drewN n).cell eG) ..);have fO:=Aa (show Q<wd.heap.size from World.block_lt_of_cell? _ _ aY.o);clear k4 k5 k7
        go_cut [16,17] from 21 to 122 (fun dG fA wx=>dG= .pointer (some ⟨wd.heap.size,0,none⟩)/\fA= .int .i64 0/\wx.cell? ⟨Q,0,none⟩=some (.int .i64 s)/\wx.cell? ⟨wd.heap.size,0,none⟩=some (.int .i64 (KI:Nat))/\
         Hia (EB w0 wx base g R N aB aE a2 (wd.heap.size :: (Q+1) :: Q :: AV (.slice pa s pc) B4 (B4+1) (B4+1+1)) B4 (B4+1) (B4+1+1) b (.slice pa s pc) piv))
        case first=>
         go_region_held3 (fun w'=>w'.cell? ⟨B4,0,none⟩=some (.pointer (some ⟨b,0,none⟩))/\w'.cell? ⟨B4+1,0,none⟩=some (.slice (some ⟨g,0,none⟩) R R)/\w'.cell? ⟨Q,0,none⟩=some (.int .i64 s)/\w'.cell? ⟨g,s,none⟩=some (.slice (some ⟨aB s,0,none⟩) N (aE s))/\w'.cell? ⟨aB s,c,none⟩=some (.int .i64 (a2 s c)))
          (first|with_reducible exact cC.o _ E0|with_reducible exact cC.o _ ((Ex.refl wd).drewN _)|with_reducible exact cC.o _ (((Ex.refl wd).drewN _).alloc _)|with_reducible exact cC.o _ ((Ex.refl wd).drew.alloc _)|with_reducible exact cC.o _ ((Ex.refl wd).alloc _).drew|with_reducible exact cC.o _ (((Ex.refl wd).alloc _).drewN _)|with_reducible exact cA.o _ _ (((Ex.refl wd).drewN _).alloc _)|with_reducible exact cA.o _ _ (((Ex.refl wd).alloc _).drewN _))
          ((go_at_call 250;(first|with_reducible refine(aQ.o _ G0).mono ?_|with_reducible refine(aQ.o _ (HD.o.ex.drewN _)).mono ?_|with_reducible refine(aQ.o _ ((HD.o.ex.alloc _).drew)).mono ?_|with_reducible refine(aQ.o _ ((HD.o.ex.drew).alloc _)).mono ?_|with_reducible refine(aQ.o _ ((HD.o.ex.alloc _).drewN _)).mono ?_);rintro e wx1⟨rfl,n2,rfl⟩))
         all_goals
          go_wp2_with fail
          go_meet
          first
                    | with_reducible exact⟨rfl,rfl,(cA.o _ _ (((Ex.refl wd).drewN _).alloc _)).2.2.1,eC.o _,Aa (dZ.o _)⟩
                    | with_reducible exact⟨rfl,rfl,(cA.o _ _ (((Ex.refl wd).alloc _).drewN _)).2.2.1,cE.o _,Aa (cD.o _)⟩
                    | exact⟨rfl,rfl,(cA.o _ _ (((Ex.refl wd).drewN _).alloc _)).2.2.1,eC.o _,Aa (dZ.o _)⟩
                    | exact⟨rfl,rfl,(cA.o _ _ (((Ex.refl wd).alloc _).drewN _)).2.2.1,cE.o _,Aa (cD.o _)⟩
        case rest=>
         obtain⟨rfl,rfl,aC,eQ,aA⟩:=hcut;clear cA cC dZ cD eC cE eH fG eG fF bK bL bN bM aY HD E0 G0 aQ;generalize wd.heap.size=Q2 at *;have cY:=Aa (show Q2∈Q2 :: (Q+1) :: Q :: AV (.slice pa s pc) B4 (B4+1) (B4+1+1) from List.mem_cons_self ..);have bZ:=Aa (show Q∈Q2 :: (Q+1) :: Q :: AV (.slice pa s pc) B4 (B4+1) (B4+1+1) from ag);go_upto_if 92 with fail
         go_cut [16] from 21 to 122 (fun dG wx=>∃(aX aW:Nat->Nat) (a3:Nat->Nat->Int),dG= .pointer (some ⟨Q2,0,none⟩)/\wx.cell? ⟨Q,0,none⟩=some (.int .i64 s)/\
          Hia (EB w0 wx base g R N aX aW a3 (Q2 :: (Q+1) :: Q :: AV (.slice pa s pc) B4 (B4+1) (B4+1+1)) B4 (B4+1) (B4+1+1) b (.slice pa s pc) piv)/\Hia (PV p m R N a3 piv c)/\Hia (∀x,Ez p m ml N R a3 x↔Ez p m ml N R a x)/\Hia (a3 s c=1))
         case first=>
          by_cases hK1:KI=1
          .have fC:(((KI:Nat):Int) !=1)=false:=by simp[hK1]
           have bX:=Aa (show a2 s c=1 from by
            obtain⟨k1,k2,k3,k4,k5⟩:=cB.o;rw[hK1,Cu p2 m1 k5]at k1;rw[k3,k1];rfl)
           clear hK1;go_wp2_with fail
           go_meet
           exact⟨aB,aE,a2,rfl,aC,aA,bA,aS,bX⟩
          .have fC:(((KI:Nat):Int) !=1)=true:=by simp;omega
           have HE:=Aa (Ub w0 wc HG.o aA.o.ex aA.o.em aA.o.bs ac (B4+1) (B4+1+1) B4 Q2 Q s (KI:Nat) aR aA.o.i7 aA.o.i4 cY.o bZ.o aA.o.c5 aA.o.c7 aA.o.c4 eQ aC);rw[Bj cB.o.2.1]at HE;have dT:=Aa (show PV p m R N (Ax a2 s (CI p m ml KI (a2 s))) piv c from by have:=bA.o.scl (ml:=ml) ac (by rw[HS.o];exact aR) (k:=KI);rw[HS.o]at this;exact this);have cT:=Aa (show ∀x,Ez p m ml N R (Ax a2 s (CI p m ml KI (a2 s))) x↔Ez p m ml N R a x from fun x=>(Ez.scl p2 m1 HF.o aR (by
            have k1:=cB.o.1;by_cases e:KI=0
            .rw[e,BC ac]at k1;omega
            .omega) cB.o.2.1).trans (aS.o x))
           have bX:=Aa (show Ax a2 s (CI p m ml KI (a2 s)) s c=1 from by
            rw[Ad];unfold CI;rw[cB.o.2.2.2.1,Bb,cB.o.1];rfl)
           have cI:=Aa aC;clear hK1 aC eQ;go_wp2_with (go_at_call 248;refine HE.o.mono ?_;rintro e wx aD;obtain⟨⟨t,rfl⟩,_⟩:=id aD;obtain⟨aX,aW,dN⟩:=aA.o.step aD;have aF:=aD.2.2.1.cell bZ.o cI.o;have cH:=Aa dN;clear aD dN)
           go_meet
           exact⟨aX,aW,_,rfl,aF,cH,dT,cT,bX⟩
         case rest=>
          obtain⟨aX,aW,a3,rfl,aC,aA,cL,bG,aH⟩:=hcut;have dM:∀B,(Value.slice pa s pc).ownBlock=some B->B∈Q :: AV (.slice pa s pc) B4 (B4+1) (B4+1+1):=fun B hB=>by
           unfold AV;rw[hB];simp
          have HL:=Aa (aA.o.less (bvs:=Q :: AV (.slice pa s pc) B4 (B4+1) (B4+1+1)) (fun B hB=>List.mem_cons_of_mem _ (List.mem_cons_of_mem _ hB)) a8 a8 a8 dM);have c5:=aA.o.c5;have fR:=Aa dM;have aM:=Aa (show ∀i',i'<0->i'≠s->a3 i' c=0 from fun i' h=>ac);clear aA dM cM aS bA cB cY bZ fO;go_wp2_with fail
          clear c5
          go_loopw [98] (fun i' wr=>∃(i:Nat) (aK aJ:Nat->Nat) (a4:Nat->Nat->Int),i<=R/\i'= .int .i64 i/\wr.cell? ⟨Q,0,none⟩=some (.int .i64 s)/\Hia (EB w0 wr base g R N aK aJ a4 (Q :: AV (.slice pa s pc) B4 (B4+1) (B4+1+1)) B4 (B4+1) (B4+1+1) b (.slice pa s pc) piv)/\Hia (PV p m R N a4 piv c)/\Hia (∀x,Ez p m ml N R a4 x↔Ez p m ml N R a x)/\Hia (a4 s c=1)/\Hia (∀i',i'<i->i'≠s->a4 i' c=0)) (fun i' _=>R-(intOf i').toNat)
          case atStart=>exact⟨0,aX,aW,a3,ac,rfl,aC,HL,cL,bG,aH,aM⟩
          case round=>
           clear HL cL bG aH aM aC;obtain⟨i,aK,aJ,a4,hi,rfl,aC,aA,aN,aG,aH,aI⟩:=hrel;by_cases hiR:i<R
           .obtain⟨P,hP⟩:=nA wr.heap.size;have dP:(wr.alloc (.cells #[.int .i64 i] 3)).heap.size=P+1:=by simp[hP]
            have bB:=aA.o.box (.cells #[.int .i64 i] 3);have aU:=bB.box (.cells #[.int .i64 (a4 i c)] 3);rw[dP,hP]at aU;rw[hP]at bB;have eA:Ex wr (wr.alloc (.cells #[.int .i64 i] 3)):=(Ex.refl wr).alloc _;have d5:=bB.c5;have eP:(wr.alloc (.cells #[.int .i64 i] 3)).cell? ⟨P,0,none⟩=some (.int .i64 i):=AK _ _ _ hP;have dg:=bB.em.cell hiR;have de:=bB.em.ent hiR hcN;have dE:((wr.alloc (.cells #[.int .i64 i] 3)).alloc (.cells #[.int .i64 (a4 i c)] 3)).cell? ⟨P,0,none⟩=some (.int .i64 i):=((Ex.refl _).alloc _).cell eP;have dD:((wr.alloc (.cells #[.int .i64 i] 3)).alloc (.cells #[.int .i64 (a4 i c)] 3)).cell? ⟨P+1,0,none⟩=some (.int .i64 (a4 i c)):=AK _ _ _ dP;have aF:((wr.alloc (.cells #[.int .i64 i] 3)).alloc (.cells #[.int .i64 (a4 i c)] 3)).cell? ⟨Q,0,none⟩=some (.int .i64 s):=(eA.alloc _).cell aC;obtain⟨aL,fT,fS,bF⟩:=Eq aU dE dD aF;have j1:(0:Int)<=(i:Int):=ac;have j2:(i:Int)<(R:Int):=ac;clear bB aU aA eA aC dE dD aF;go_upto_region 23 with fail
            clear d5 eP dg de;generalize (wr.alloc (.cells #[.int .i64 i] 3)).alloc (.cells #[.int .i64 (a4 i c)] 3)=W3 at *;clear hP dP;have aC:=bF.o;have dE:=fT.o;have dD:=fS.o;have dX:=Aa (show ∀(wy:World) (aP aO:Nat->Nat) (a5:Nat->Nat->Int),EB w0 wy base g R N aP aO a5 ((P+1) :: P :: Q :: AV (.slice pa s pc) B4 (B4+1) (B4+1+1)) B4 (B4+1) (B4+1+1) b (.slice pa s pc) piv->EB w0 wy base g R N aP aO a5 (Q :: AV (.slice pa s pc) B4 (B4+1) (B4+1+1)) B4 (B4+1) (B4+1+1) b (.slice pa s pc) piv from fun wy aP aO a5 h=>h.less (fun B hB=>List.mem_cons_of_mem _ (List.mem_cons_of_mem _ hB)) a8 a8 a8 fR.o);by_cases his:i=s
            .have b1:((i:Int) !=(s:Int))=false:=by simp[his]
             have b2:(i !=s)=false:=by simp[his]
             have aM:=Aa (show ∀i',i'<i+1->i'≠s->a4 i' c=0 from fun i' h bQ=>aI.o i' ac bQ);have bO:=Aa (dX.o _ _ _ _ aL.o);clear his aI;exact zbc
            .have b1:((i:Int) !=(s:Int))=true:=by simp;omega
             have b2:(i !=s)=true:=aq;by_cases aZ:a4 i c=0
             .have b3:(a4 i c !=0)=false:=by simp[aZ]
              have aM:=Aa (show ∀i',i'<i+1->i'≠s->a4 i' c=0 from fun i' h bQ=>by
               by_cases e:i'=i
               .rw[e];exact aZ
               .exact aI.o i' ac bQ)
              have bO:=Aa (dX.o _ _ _ _ aL.o);clear his aI aZ;exact zbc
             .have b3:(a4 i c !=0)=true:=by simpa using aZ
              have HE:=Aa (Uc w0 W3 HG.o aL.o.ex aL.o.em aL.o.bs ac (B4+1) (B4+1+1) B4 P (P+1) Q s i (a4 i c) aR hiR his aL.o.i7 aL.o.i4 ag ag ag aL.o.c5 aL.o.c7 aL.o.c4 dE dD aC);obtain⟨KN,dB⟩:∃K,Dy p m (Az (p^m) (a4 i c))=K:=⟨_,rfl⟩;have dK:1<p^m:=Bw p2 m1;have dS:=Aa (show CV p m ml (a4 i) KN (a4 s) c=0 from by
               unfold CV;have k1:Az (p^m) 1=1:=Bj (q:=p^m) (x:=1) dK;rw[aH.o,if_neg ac,k1,Cu p2 m1 (by rw[<-dB];exact DX ac _),<-dB,FJ ac];rfl)
              rw[dB]at HE;have cV:=Aa (show PV p m R N (Ax a4 i (CV p m ml (a4 i) KN (a4 s))) piv c from by have:=aN.o.add (ml:=ml) ac (by rw[HS.o];exact aR) hiR (by rw[HS.o];exact his) (k:=KN);rw[HS.o]at this;exact this);have bI:=Aa (show ∀x,Ez p m ml N R (Ax a4 i (CV p m ml (a4 i) KN (a4 s))) x↔Ez p m ml N R a x from fun x=>(Ez.add p2 aR hiR his).trans (aG.o x));have bJ:=Aa (show Ax a4 i (CV p m ml (a4 i) KN (a4 s)) s c=1 from by rw[Ae _ _ (fun e=>his e.symm)];exact aH.o);have bP:=Aa (show ∀i',i'<i+1->i'≠s->Ax a4 i (CV p m ml (a4 i) KN (a4 s)) i' c=0 from fun i' h bQ=>by
               by_cases e:i'=i
               .rw[e,Ad];exact dS.o
               .rw[Ae _ _ e];exact aI.o i' ac bQ)
              clear his aI aZ dB dK;go_wp2_with (go_at_call 248;refine HE.o.mono ?_;rintro e wx aD;obtain⟨⟨t,rfl⟩,_⟩:=id aD;obtain⟨aP,aO,eJ⟩:=aL.o.step aD;have aF:=aD.2.2.1.cell (show Q∈(P+1) :: P :: Q :: AV (.slice pa s pc) B4 (B4+1) (B4+1+1) by simp) bF.o;have bO:=Aa (dX.o _ _ _ _ eJ);clear aD eJ)
              go_roundw
              case rel=>first|exact⟨i+1,aP,aO,_,ac,by go_num,aF,bO,cV,bI,bJ,bP⟩|((repeat apply Exists.intro);exact⟨⟨i+1,aP,aO,_,ac,by go_num,aF,bO,cV,bI,bJ,bP⟩,rfl⟩)
              case measure=>simp[intOf];omega
           .obtain rfl:R=i:=by omega
            have eU:=Aa (show PV p m R N a4 (piv ++ [c]) (c+1) from aN.o.done (by rw[HS.o];exact aR) (by rw[HS.o];exact aH.o) fun i hi bQ=>aI.o i hi (by rw[<-HS.o];exact bQ));have fM:=Aa (show base<=wr.heap.size from by have:=aA.o.em.arr.lt;omega);have hp256:piv.length<=256:=by omega
            have hP:=Aa aA.o.pvo;clear aI aC;go_wp2_with (at_builtin;refine Ak _ rfl _ _ 22 rfl base 3 (.int .i64 0) 1 8 Tryz.underlying22 Au rfl ae _ piv.length _ rfl hP.o [.int .i64 c] 3 _ rfl ag rfl aj ai ac fM.o ?_)
            intro v2 w2 bR;have eW:=Aa ((aA.o.less (bvs:=AV (.slice pa s pc) B4 (B4+1) (B4+1+1)) (fun B hB=>List.mem_cons_of_mem _ hB) a8 a8 a8 (fun B hB=>by unfold AV;rw[hB];simp)).app bR);obtain⟨va,vc,fB⟩:=Ab bR.own;subst fB;clear bR aA hP;go_wp2_with fail
            go_roundw
            case rel=>first|exact⟨c+1,piv ++ [c],_,aK,aJ,a4,ac,by go_num,rfl,eW,eU,aG⟩|((repeat apply Exists.intro);exact⟨⟨c+1,piv ++ [c],_,aK,aJ,a4,ac,by go_num,rfl,eW,eU,aG⟩,rfl⟩)
            case measure=>simp[intOf];omega
     .obtain rfl:R=k:=by omega
      have eT:=Aa (dV.o.none fun k' h1 h2=>cJ.o k' (by rw[<-HS.o];exact h1) h2);have cH:=Aa aA.o.toAV;have dN:decide ((R:Int)<(R:Int))=false:=by simp
      have hb4:((R:Int)==(R:Int))=true:=ag;clear aA cJ cG aC;go_wp2_with fail
      go_roundw
      case rel=>first|exact⟨c+1,piv,bH,bD,bC,a1,ac,by go_num,rfl,cH,eT,aT⟩|((repeat apply Exists.intro);exact⟨⟨c+1,piv,bH,bD,bC,a1,ac,by go_num,rfl,cH,eT,aT⟩,rfl⟩)
      case measure=>simp[intOf];omega
   .have cO:piv.length=R:=by omega
    have b3:decide ((piv.length:Int)<(R:Int))=false:=aq;have b4:decide (piv.length<R)=false:=aq;have HE:=Aa (cZ.o (.inl cO));have dR:=Aa aA.o.ex;have dW:=Aa (fun B e=>(aA.o.pvo.lt B e).1);clear cO cZ hpR aA;exact zbY
  .have cO:c=N:=by omega
   have b1:decide ((c:Int)<(N:Int))=false:=aq;have b2:decide (c<N)=false:=aq;have HE:=Aa (cZ.o (.inr cO));have dR:=Aa aA.o.ex;have dW:=Aa (fun B e=>(aA.o.pvo.lt B e).1);clear cO cZ aA;exact zbY
end Go.Proofs.YtehieobniamagaaGreat
