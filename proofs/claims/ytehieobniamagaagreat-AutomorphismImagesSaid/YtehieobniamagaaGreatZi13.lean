/- Walks of the reference's Eliminate and Canon (printed by gen_elim.py). -/
import Derived.Test.YtehieobniamagaaGreatZi12
namespace Go.Proofs.YtehieobniamagaaGreat
open List renaming setIfInBounds_toArray→γa,set_cons_zero→δb,set_cons_succ→δc
set_option linter.all false
set_option maxRecDepth 100000
set_option maxHeartbeats 16000000
open Go.RowKit
theorem zdp{P:Prop}(h:P:=by
 clear T;go_simp;exact hK _ (.refl w)):P:=h
theorem zaw{P:Prop}(h:P:=by
 have e3:=T 3 _ rfl;have q1:=(aD.o.trans hx).cell A0.o;have q2:=(aD.o.trans hx).cell A1.o;have q3:=(aD.o.trans hx).cell A2.o;exact zdp):P:=h
theorem za1{P:Prop}(h:P:=by
 have cC:=T 10 _ rfl;exact zdp):P:=h
theorem za2{P:Prop}(h:P:=by
 have dB:=T 13 _ rfl;exact zdp):P:=h
theorem za5{P:Prop}(h:P:=by
 have e8:=T 8 _ rfl;exact zdp):P:=h
theorem zbR{P:Prop}(h:P:=by
 go_wp2_with fail
 go_roundw
 case rel=>exact⟨i+1,aE,a4,by omega,by go_num,aA,aC,aF,aZ,bG⟩
 case measure=>exact Ωm):P:=h
theorem zb1{P:Prop}(h:P:=by
 go_wp2_with fail
 go_ret2;exact⟨⟨[],none,0,ca,cc,rfl,a,dI.o,Bd _,Hb.nil dK.o⟩,aV.o.trans cI.o⟩):P:=h
theorem zcf{P:Prop}(h:P:=by
 rw[hs]at HR ⊢;have HS:=Aa hs;clear hs aJ aQ aK aX aH;go_wp2_with fail
 go_ret2;exact HR.o):P:=h
theorem zcx{P:Prop}(h:P:=by
 go_region
 all_goals go_wp2_with fail
 all_goals go_meet
 all_goals exact⟨_,aY⟩):P:=h
theorem zcO{P:Prop}(h:P:=by
 rintro e w'⟨g7,rfl,ho,h5⟩;exact hK _ _ h5 ⟨g7,rfl,ho.mono hx.size⟩):P:=h
theorem zcQ{P:Prop}(h:P:=by
 have q1:=aG.o.1;have q2:=aG.o.2.1;exact zdp):P:=h
theorem zcR{P:Prop}(h:P:=by
 have q1:=aU.o.1;have q2:=aU.o.2.1;exact zdp):P:=h
theorem US{p m:Nat}{ml:List Int}{mv:Value}(w:World)(hf:Gg p m ml)(hF:Hc p m (lw ml))(bV:Ak w mv ml)(N R:Nat)(hN:N<=256)(hR:R<=256)(a:Nat->Nat->Int)(bD:Ra p m R N a)(v:Value)(hv:B6 w v (Au N R a)):
  Calls Tryz.prog 195 #[.agg #[p,m,mv],v,N] w fun r w'=>(∃piv pa pc la lc a',r= .returned (.tuple #[.slice la R lc,.slice pa piv.length pc])/\Ia p m ml N R a a' piv/\Ak w' (.slice pa piv.length pc) (pI piv)/\R<=lc/\∀k,k<=R->Hb w.heap.size w' (.slice la k lc) (Au N k a'))/\Ex w w':=by
 obtain⟨a0,a1,a2,ea,dX⟩:=AA w p m mv;have p2:=hf.p2;have m1:=hf.m1;have dQ:0<p^m:=Nat.pow_pos ac;have dJ:=Aa (UU _ (Au N R a) v (hv.ex ea) (by rw[AI];omega) (fun r hr=>by
  unfold Au at hr;obtain⟨i,_,rfl⟩:=List.mem_map.1 hr;rw[AM];omega))
 obtain⟨va,vc,cW,v1,v2,-⟩:=hv.open;rw[AI]at cW v1;subst cW;obtain⟨HF,cL,dG,aV⟩:=Of (And.intro hf hF) bV bD ea;obtain⟨ma,mc,rfl,-,-,-⟩:=bV.open;obtain⟨B,hB⟩:=nA w.heap.size;rw[hB]at a0 a1 a2 dX;clear hf hF bV hv bD ea;go_enter Tryz.func195,Tryz.ntmps195
 go_wp2_with fail
 try simp only[hB]
 have HBW:=Aa hB;clear hB;generalize w.alloc (.cells #[p,m,(ma,ml.length,mc)] 24)=w1 at *;have A0:=Aa a0;have A1:=Aa a1;have A2:=Aa a2;clear a0 a1 a2;refine dJ.o.mono ?_;rintro e w2⟨cv,vl,rfl,hm,cV⟩;have cI:=Aa cV;have HM:=Aa hm;clear cV hm dJ;by_cases hR0:R=0
 .subst hR0;obtain⟨ca,cc,bY⟩:=Ad HM.o.cvo;subst bY;have eF:Hia (B6 w2 (.slice ca 0 cc) (Au N 0 a)):=Aa (by have:=HM.o.msl;exact this);obtain⟨_,c9,e9,l9,l8,-⟩:=eF.o.open;have dK:Hia (cc<=maxLen):=Aa (by injection e9 with _ _ h3;rw[h3];exact l8);have dI:=Aa (show Ia p m ml N 0 a a [] from⟨0,ac,PV.init dG.o,.inl rfl,fun x=>Iff.rfl⟩);have cX:(Au N 0 a).length=0:=AI N 0 a;rw[cX];clear e9 l9 l8 cX;go_wp2_with fail
  go_loop [9,10,11] (fun pv cH c'=>pv= .slice none 0 0/\cH= .int .i64 ((0:Nat):Int)/\∃c:Nat,c<=N/\c'= .int .i64 c) (fun _ _ c'=>N-(intOf c').toNat)
  case atStart=>exact⟨rfl,rfl,0,ac,rfl⟩
  case round=>
   obtain⟨rfl,rfl,c,hc,rfl⟩:=hrel;by_cases hcN:c<N
   .have k1:decide ((0:Nat)<0)=false:=by simp
    exact zb1
   .have k1:decide (c<N)=false:=by simpa using hcN
    exact zb1
 .obtain⟨g,cap,bY,bX⟩:=MO.of HM.o ac;subst bY;obtain⟨base,bF⟩:∃b,w1.heap.size=b:=⟨_,rfl⟩;rw[bF]at bX;obtain⟨aA,aC,aF,aD⟩:=Of (show Mi w1 w2 base g R N cap (fun i=>vl.getD i undef) a [] (.slice none 0 0) from⟨bX,World.ownsRow_nil _ _ _ _,by simp[Value.ownBlock],fun i hi=>(AD.nil _).symm,ac,cI.o⟩) (show PV p m R N a [] 0 from PV.init dG.o) (show ∀x,B9 p m ml N R a x↔B9 p m ml N R a x from fun x=>Iff.rfl) (Ex.refl w1);clear bX HM;go_wp2_with fail
  go_loopw [9,10,11] (fun pv cH c' wr=>∃(c:Nat) (piv:List Nat) (vals:Nat->Value) (a1:Nat->Nat->Int),c<=N/\c'= .int .i64 c/\cH= .int .i64 piv.length/\Hia (Mi w1 wr base g R N cap vals a1 piv pv)/\Hia (PV p m R N a1 piv c)/\Hia (∀x,B9 p m ml N R a1 x↔B9 p m ml N R a x)) (fun _ _ c' _=>N-(intOf c').toNat)
  case atStart=>exact⟨0, [],_,a,ac,rfl,rfl,aA,aC,Aa (fun x=>Iff.rfl)⟩
  case round=>
   clear aA aC aF;obtain⟨c,piv,vals,a1,hc,rfl,rfl,aK,aX,aH⟩:=hrel;obtain⟨pa,pc,bU⟩:=Ad aK.o.po;subst bU;have aQ:=aX.o.le;obtain⟨dW,dV⟩:=aK.o.em.o.caps;unfold maxLen at dV;have aJ:=Aa (show(piv.length=R∨c=N)->(∃aL cQ cP la lc a',Ending.returned (.tuple #[.slice (some (g,0)) R cap,.slice pa piv.length pc])= .returned (.tuple #[.slice la R lc,.slice cQ aL.length cP])/\Ia p m ml N R a a' aL/\Ak wr (.slice cQ aL.length cP) (pI aL)/\R<=lc/\∀k,k<=R->Hb w.heap.size wr (.slice la k lc) (Au N k a'))/\Ex w wr from fun h=>⟨⟨piv,pa,pc,_,cap,a1,rfl,⟨c,hc,aX.o,h,aH.o⟩,by
    have:=Sl.own aK.o.po;unfold Ak;rw[RN];exact this,dW,fun k hk=>aK.o.em.mslF (by have h1:=aK.o.hb;have h2:=aV.o.size;omega) hk⟩,aV.o.trans aK.o.ex⟩)
   obtain⟨s,hs⟩:=nA piv.length;by_cases hcN:c<N
   .by_cases hsR:s<R
    .have k1:decide (s<R)=true:=by simpa using hsR
     have HS:=Aa hs;have aA:Hia (Mi w1 wr base g R N cap vals a1 piv (.slice pa s pc)):=Aa (by rw[<-hs];exact aK.o);rw[hs];clear hs aQ aJ;have aC:=Aa aX.o;have aF:=Aa aH.o;clear aK aX aH;go_wp2_with fail
     go_loop [12] (fun k'=>∃(k:Nat),s<=k/\k<=R/\k'= .int .i64 k/\Hia (∀j,s<=j->j<k->a1 j c=0)) (fun k'=>R-(intOf k').toNat)
     case atStart=>exact⟨s,ac,ac,rfl,Aa (fun j h1 h2=>ac)⟩
     case round=>
      obtain⟨k,bW,dR,rfl,hz⟩:=hrel;by_cases hkR:k<R
      .obtain⟨gk,ck,bS,cY,k3,k4⟩:=aA.o.em.at ac hkR hcN;have dC:=aA.o.em.o.cell hkR;rw[bS]at dC;unfold maxLen at k4;obtain⟨y,hy⟩:=nA (a1 k c);rw[hy]at cY;have i1:(0:Int)<=(k:Int):=by omega
       have i2:(k:Int)<(R:Int):=ac;have i3:(0:Int)<=(c:Int):=ac;have i4:(c:Int)<(N:Int):=ac;have b1:decide (k<R)=true:=by simpa using hkR
       by_cases aN:y=0
       .subst aN;have HZ:Hia (∀j,s<=j->j<k+1->a1 j c=0):=Aa (fun j h1 h2=>by
         by_cases e:j=k
         .subst e;exact hy
         .exact hz.o j h1 ac)
        clear hy;go_wp2_with fail
        go_round
        case rel=>exact⟨k+1,ac,ac,by go_num,HZ⟩
        case measure=>exact Ωm
       .have kb:(y==0)=false:=by simpa using aN
        have HY:=Aa (And.intro hy aN);have b2:((k:Int)==(R:Int))=false:=aq;have b3:(k==R)=false:=aq;have HKR:=Aa (show s<R/\k<R/\s<=k from⟨hsR,hkR,bW⟩);have dE:=Aa bS;clear hy aN bS k3 k4;have cE:=aA.o.em.o.cell hsR;have dT:=aA.o.em.o.frz s;have dA:=aA.o.em.o.frz k;have j1:(0:Int)<=(s:Int):=ac;have j2:(s:Int)<(R:Int):=ac;have aY:=Aa ((aA.o.swp hsR hkR).later (Ex.refl _).drew);rw[dE.o]at aY;go_upto_region 11 with fail
        clear cY
        go_cut [48] from 48 to 61 (fun _ wx=>∃aM,Hia (Mi w1 wx base g R N cap aM (DO a1 s k) piv (.slice pa s pc)))
        case first=>
         by_cases hsk:s=k
         .subst hsk;rw[dE.o]at aY;clear cE dA;exact zcx
         .obtain⟨gs,cs,aW,-⟩:=aA.o.em.at ac hsR hcN;rw[aW]at cE aY;have n1:¬s=k:=hsk;have n2:¬k=s:=fun e=>hsk e.symm;clear aW;exact zcx
        case rest=>
         obtain⟨aM,bE⟩:=hcut;obtain⟨aA,aC,aF,bJ⟩:=Of bE.o (show PV p m R N (DO a1 s k) piv c from by have:=aC.o.swp (k:=k) (by rw[HS.o];exact bW) hkR;rw[HS.o]at this;exact this) (show ∀x,B9 p m ml N R (DO a1 s k) x↔B9 p m ml N R a x from fun x=>(B9.swp hsR hkR).trans (aF.o x)) (show DO a1 s k s c=a1 k c from by unfold DO;rw[if_pos rfl]);clear bE aY cE dT dA dC i1 i2;obtain⟨a2,cZ⟩:=nA (DO a1 s k);rw[cZ]at aA aC aF bJ;clear cZ;obtain⟨gs,cs,aW,bZ,k3,k4⟩:=aA.o.em.at ac hsR hcN;have cD:=aA.o.em.o.cell hsR;rw[aW]at cD;unfold maxLen at k4;have cN:=Aa cD;rw[bJ.o,HY.o.1]at bZ;have dN:=Aa bZ;have hy:=aC.o.rng s hsR c hcN;rw[bJ.o,HY.o.1]at hy;obtain⟨yn,rfl⟩:∃yn:Nat,y=yn:=⟨y.toNat,ac⟩;have bR:yn<p^m:=by omega
         have bQ:1<=yn:=by have:=HY.o.2;omega
         have aG:=Aa (show(0:Int)<=(s:Int)/\(s:Int)<(R:Int)/\(0:Int)<=(c:Int)/\(c:Int)<(N:Int)/\s<R from⟨ac,ac,ac,ac,hsR⟩);have cM:=Aa (fun (w':World) (h:Ex wc w')=>by
          have:=Ww (mv:= .slice ma ml.length mc) w' HF.o.1 (cL.o.ex (aV.o.trans (aA.o.ex.trans h))) (yn:Int);rw[AE bR]at this;exact this)
         have bL:=Le p2 m1 HF.o.2 bQ bR;have bM:=Kb (ml:=ml) dQ yn;obtain⟨z,cT⟩:=nA (Eg p m ml yn);rw[cT]at cM bL bM;have dF:=Aa (fun (w':World) (h:Ex wc w')=>by
          have:=Wu w' p m ml (.slice ma ml.length mc) HF.o.1 (cL.o.ex (aV.o.trans (aA.o.ex.trans h))) (z:Int) N ac (a2 s) _ ((aA.o.em.isl hsR).ex h);rw[AE bM,aW]at this;exact this)
         have cS:1<=z:=by
          rcases Nat.eq_zero_or_pos z with e|e
          .subst e;rw[Bc ac]at bL;omega
          .omega
         have aD:=Aa aA.o.ex;have dY:Hia (∀f:Nat->Int,f c=(yn:Int)->BT p m ml z f c=1):=Aa (fun f hf=>by
          unfold BT;rw[hf,AE bR,AY,bL];rfl)
         have dD:=Aa (And.intro cS bM);have dL:Hia (a2 s c=(yn:Int)):=Aa (by rw[bJ.o,HY.o.1]);clear bL cT aW k3 k4 hy hz bW dR hkR cS bM bJ HY;go_upto_if 69 with fail
         go_cut [70] from 69 to 87 (fun _ wx=>∃aB a3,Hia (Mi w1 wx base g R N cap aB a3 piv (.slice pa s pc))/\Hia (PV p m R N a3 piv c)/\Hia (∀x,B9 p m ml N R a3 x↔B9 p m ml N R a x)/\Hia (a3 s c=1))
         case first=>
          by_cases hy1:yn=1
          .have kb:((yn:Int) !=1)=false:=by simp[hy1]
           subst hy1;have bA:Hia (a2 s c=1):=Aa (dL.o);go_wp2_with fail
           go_meet
           exact⟨_,a2,aA,aC,aF,bA⟩
          .have kb:((yn:Int) !=1)=true:=by simp;omega
           have hy2:¬((yn:Int)=1):=ac;clear hy1;go_upto_region 13 with fail
           refine Ib (fun k=>([.slice (some (g,0)) R cap,.int .i64 (s:Int),.agg #[(p:Int),(m:Int),(ma,ml.length,mc)],.agg #[(p:Int),(m:Int),(ma,ml.length,mc)],.slice (some (g,0)) R cap,.int .i64 (s:Int),.pointer (some (g,s)),.slice (some (gs,0)) N cs,.int .i64 (c:Int),.pointer (some (gs,c)),.int .i64 (yn:Int),.int .i64 (z:Int),.slice (some (g,0)) R cap,.int .i64 (s:Int),.pointer (some (g,s)),.slice (some (gs,0)) N cs,undef,.pointer (some (g,s))]:List Value).getD k undef) 16 18 (fun v w'=>∃g7,v= .slice (some ⟨g7,0,none⟩) N N/\AJ w' wc.heap.size 3 g7 N (iv (BT p m ml z (a2 s)))) (fun v w'=>∃aB,Hia (Mi w1 w' base g R N cap aB (Ay a2 s (BT p m ml z (a2 s))) piv (.slice pa s pc))) (fun v wa wb ⟨g7,h1,h2⟩ hx=>⟨g7,h1,h2.ex hx⟩) ah ah ah ?_ (fun v k=>([.slice (some (g,0)) R cap,.int .i64 (s:Int),.agg #[(p:Int),(m:Int),(ma,ml.length,mc)],.agg #[(p:Int),(m:Int),(ma,ml.length,mc)],.slice (some (g,0)) R cap,.int .i64 (s:Int),.pointer (some (g,s)),.slice (some (gs,0)) N cs,.int .i64 (c:Int),.pointer (some (gs,c)),.int .i64 (yn:Int),.int .i64 (z:Int),.slice (some (g,0)) R cap,.int .i64 (s:Int),.pointer (some (g,s)),.slice (some (gs,0)) N cs,v,.pointer (some (g,s))]:List Value).getD k undef) (fun _=>rfl) ?_
           .simp only[AH];refine⟨?_,?_,?_,?_,?_,?_,?_,?_,?_,?_,?_,?_,?_,?_,?_,?_,?_,?_,?_,trivial⟩
            all_goals first|refine IL.go ae fun a w T hx K hK=>?_|refine IL.ap ae fun a w T hx K hK=>?_|refine IL.st ae fun a w T hx K v hA hv hK=>?_
            .exact za5
            .exact za1
            .exact zaw
            .exact zaw
            .exact za5
            .exact za1
            .have e74:=T 74 _ rfl;have e75:=T 75 _ rfl;exact zcQ
            .have e76:=T 76 _ rfl;have q1:=hx.cell cN.o;exact zdp
            .have dU:=T 11 _ rfl;exact zdp
            .have e77:=T 77 _ rfl;have e78:=T 78 _ rfl;have q1:=aG.o.2.2.1;have q2:=aG.o.2.2.2;exact zdp
            .have e79:=T 79 _ rfl;have q1:=hx.cell dN.o;exact zdp
            .have e73:=T 73 _ rfl;have e80:=T 80 _ rfl;clear T;go_simp;refine(cM.o w hx).mono ?_;rintro e w'⟨rfl,h5⟩;exact hK _ h5
            .exact za5
            .exact za1
            .have e82:=T 82 _ rfl;have e83:=T 83 _ rfl;exact zcQ
            .have e84:=T 84 _ rfl;have q1:=hx.cell cN.o;exact zdp
            .have e72:=T 72 _ rfl;have e81:=T 81 _ rfl;have e85:=T 85 _ rfl;clear T;go_simp;refine(dF.o w hx).mono ?_;exact zcO
            .have e70:=T 70 _ rfl;have e71:=T 71 _ rfl;exact zcQ
            .have e87:=T 87 _ rfl;have e86:=hv 86 _ rfl rfl;clear T;obtain⟨g7,rfl,ho⟩:=hA;have H5:=(aA.o.later hx);have aR:=aA.o.fresh (b':=0) (u:= .slice (some ⟨g7,0,none⟩) N N) ho;have aI:=H5.set (i:=s) (u:= .slice (some ⟨g7,0,none⟩) N N) (f:=BT p m ml z (a2 s)) (by have h:=Bj ho (show base<=wc.heap.size from by have:=aA.o.em.o.lt;omega);rw[Cy];exact h) aR.1 aR.2;have q1:=H5.em.o.cell aG.o.2.2.2.2;have q2:=H5.em.o.frz s;have cJ:=Aa aI;clear ho H5 aR aI;go_simp;exact hK _ ⟨_,cJ⟩
           .intro v w9 hF;obtain⟨aB,bP⟩:=hF;have bO:Hia (PV p m R N (Ay a2 s (BT p m ml z (a2 s))) piv c):=Aa (by have:=aC.o.scl (ml:=ml) (k:=z) ac (by rw[HS.o];exact hsR);rw[HS.o]at this;exact this);have bN:Hia (∀x,B9 p m ml N R (Ay a2 s (BT p m ml z (a2 s))) x↔B9 p m ml N R a x):=Aa (fun x=>(B9.scl p2 m1 HF.o.2 hsR dD.o.1 dD.o.2).trans (aF.o x));have bA:Hia (Ay a2 s (BT p m ml z (a2 s)) s c=1):=Aa (by rw[Ab];exact dY.o _ dL.o);simp only[Cg,Act.put,γa,δb,δc];go_wp2_with fail
            go_meet
            exact⟨aB,_,bP,bO,bN,bA⟩
         case rest=>
          obtain⟨aB,a3,bP,bO,bN,bA⟩:=hcut;clear dF cM cN dN cD bZ aD aA aC aF;go_wp2_with fail
          go_loopw [13] (fun i' wr=>∃(i:Nat) (aE:Nat->Value) (a4:Nat->Nat->Int),i<=R/\i'= .int .i64 i/\Hia (Mi w1 wr base g R N cap aE a4 piv (.slice pa s pc))/\Hia (PV p m R N a4 piv c)/\Hia (∀x,B9 p m ml N R a4 x↔B9 p m ml N R a x)/\Hia (a4 s c=1)/\Hia (∀j,j<i->j≠s->a4 j c=0)) (fun i' _=>R-(intOf i').toNat)
          case atStart=>exact⟨0,aB,a3,ac,rfl,bP,bO,bN,bA,Aa (fun j h=>ac)⟩
          case round=>
           clear bP bO bN bA;obtain⟨i,aE,a4,hi,rfl,aA,aC,aF,aZ,bH⟩:=hrel;by_cases hiR:i<R
           .have b1:decide (i<R)=true:=by simpa using hiR
            by_cases his:i=s
            .have b2:((i:Int) !=(s:Int))=false:=by simp;omega
             have b3:(i !=s)=false:=aq;have bG:Hia (∀j,j<i+1->j≠s->a4 j c=0):=Aa (fun j h1 h2=>bH.o j ac h2);clear his;exact zbR
            .have b2:((i:Int) !=(s:Int))=true:=by simp;omega
             have b3:(i !=s)=true:=aq;have n1:¬((i:Int)=(s:Int)):=ac;obtain⟨gi,ci,bT,cA,k3,k4⟩:=aA.o.em.at ac hiR hcN;have cG:=aA.o.em.o.cell hiR;rw[bT]at cG;unfold maxLen at k4;obtain⟨y,hy⟩:=nA (a4 i c);rw[hy]at cA;have i1:(0:Int)<=(i:Int):=bz;have i2:(i:Int)<(R:Int):=ac;have i3:(0:Int)<=(c:Int):=ac;have i4:(c:Int)<(N:Int):=ac;by_cases aN:y=0
             .subst aN;have b4:((0:Int) !=0)=false:=by simp
              have bG:Hia (∀j,j<i+1->j≠s->a4 j c=0):=Aa (fun j h1 h2=>by
               by_cases e:j=i
               .subst e;exact hy
               .exact bH.o j ac h2)
              clear hy his;exact zbR
             .have kb:(y !=0)=true:=by simpa using aN
              have cU:=aC.o.rng i hiR c hcN;rw[hy]at cU;obtain⟨aO,rfl⟩:∃n:Nat,y=n:=⟨y.toNat,ac⟩;have bC:aO<p^m:=bz;obtain⟨cB,cF,aP,-,-,k5⟩:=aA.o.em.at ac hsR hcN;have aT:=aA.o.em.o.cell hsR;rw[aP]at aT;obtain⟨cO,dO,dM,aU,aD⟩:=On cG cA aT (show(0:Int)<=(i:Int)/\(i:Int)<(R:Int)/\i<R from⟨ac,ac,hiR⟩) aA.o.ex;have cK:=Aa (fun (w':World) (h:Ex wr w')=>by
               have:=Wv (mv:= .slice ma ml.length mc) w' HF.o.1 (aO:Int);rw[AE bC]at this;exact this)
              have bK:=Dk (m:=m) (show 1<=p by omega) aO;have dH:=Aa (CW (m:=m) (show 1<=p by omega) aO);obtain⟨z4,cR⟩:∃z,CL p m aO=z:=⟨_,rfl⟩;rw[cR]at cK bK dH;have bI:=Aa (fun (w':World) (h:Ex wr w')=>(RF p m ml (.slice ma ml.length mc) w' HF.o.1 (cL.o.ex (aV.o.trans (aA.o.ex.trans h))) (il N (a4 i)) (il N (a4 s)) _ _ ((aA.o.em.isl hiR).ex h) ((aA.o.em.isl hsR).ex h) (z4:Int) (by rw[AM,AM];omega) (by rw[AM];omega)));have eJ:=Aa (fun (w':World) (h:Ex wr w')=>show Calls Tryz.prog 245 #[.agg #[p,m,(ma,ml.length,mc)],.slice (some (gi,0)) N ci,(z4:Int),.slice (some (cB,0)) N cF] w' fun r w''=>∃g7,r= .returned (.slice (some ⟨g7,0,none⟩) N N)/\AJ w'' w'.heap.size 3 g7 N (iv (Cn p m ml (a4 i) z4 (a4 s)))/\Ex w' w'' from by
               have:=bI.o w' h;rw[bT,aP]at this;refine this.mono fun r w'' ⟨g7,h1,h2,h3⟩=>?_;rw[AM]at h1 h2;refine⟨g7,h1,h2.icongr fun j hj=>?_,h3⟩;rw[Ym ac hj,AE bK])
              have bG:Hia (∀j,j<i+1->j≠s->Ay a4 i (Cn p m ml (a4 i) z4 (a4 s)) j c=0):=Aa (fun j h1 h2=>by
               by_cases e:j=i
               .subst e;rw[Ab];unfold Cn;rw[aZ.o,if_neg ae,hy,AE bC,(show Av (p^m) 1=1 from AE (q:=p^m) (x:=1) (BC p2 m1)),BD p2 m1 bK,dH.o];rfl
               .rw[Ac _ _ e];exact bH.o j ac h2)
              have eK:Hia (Ay a4 i (Cn p m ml (a4 i) z4 (a4 s)) s c=1):=Aa (by rw[Ac _ _ (fun e=>his e.symm)];exact aZ.o);have eE:Hia (PV p m R N (Ay a4 i (Cn p m ml (a4 i) z4 (a4 s))) piv c):=Aa (by have:=aC.o.add (ml:=ml) (k:=z4) ac (by rw[HS.o];exact hsR) hiR (by rw[HS.o];exact his);rw[HS.o]at this;exact this);have eA:Hia (∀x,B9 p m ml N R (Ay a4 i (Cn p m ml (a4 i) z4 (a4 s))) x↔B9 p m ml N R a x):=Aa (fun x=>(B9.add p2 hsR hiR his).trans (aF.o x));clear bT aP cR bK hy aN his cU k5 aT bI;go_upto_region 18 with fail
              refine Ib (fun k=>([.slice (some (g,0)) R cap,.int .i64 (i:Int),.agg #[(p:Int),(m:Int),(ma,ml.length,mc)],.slice (some (g,0)) R cap,.int .i64 (i:Int),.pointer (some (g,i)),.slice (some (gi,0)) N ci,.agg #[(p:Int),(m:Int),(ma,ml.length,mc)],.slice (some (g,0)) R cap,.int .i64 (i:Int),.pointer (some (g,i)),.slice (some (gi,0)) N ci,.int .i64 (c:Int),.pointer (some (gi,c)),.int .i64 (aO:Int),.int .i64 (z4:Int),.slice (some (g,0)) R cap,.int .i64 (s:Int),.pointer (some (g,s)),.slice (some (cB,0)) N cF,undef,.pointer (some (g,i))]:List Value).getD k undef) 20 22 (fun v w'=>∃g7,v= .slice (some ⟨g7,0,none⟩) N N/\AJ w' wr.heap.size 3 g7 N (iv (Cn p m ml (a4 i) z4 (a4 s)))) (fun v w'=>∃aB,Hia (Mi w1 w' base g R N cap aB (Ay a4 i (Cn p m ml (a4 i) z4 (a4 s))) piv (.slice pa s pc))) (fun v wa wb ⟨g7,h1,h2⟩ hx=>⟨g7,h1,h2.ex hx⟩) ah ah ah ?_ (fun v k=>([.slice (some (g,0)) R cap,.int .i64 (i:Int),.agg #[(p:Int),(m:Int),(ma,ml.length,mc)],.slice (some (g,0)) R cap,.int .i64 (i:Int),.pointer (some (g,i)),.slice (some (gi,0)) N ci,.agg #[(p:Int),(m:Int),(ma,ml.length,mc)],.slice (some (g,0)) R cap,.int .i64 (i:Int),.pointer (some (g,i)),.slice (some (gi,0)) N ci,.int .i64 (c:Int),.pointer (some (gi,c)),.int .i64 (aO:Int),.int .i64 (z4:Int),.slice (some (g,0)) R cap,.int .i64 (s:Int),.pointer (some (g,s)),.slice (some (cB,0)) N cF,v,.pointer (some (g,i))]:List Value).getD k undef) (fun _=>rfl) ?_
              .simp only[AH];refine⟨?_,?_,?_,?_,?_,?_,?_,?_,?_,?_,?_,?_,?_,?_,?_,?_,?_,?_,?_,?_,?_,?_,?_,trivial⟩
               all_goals first|refine IL.go ae fun a w T hx K hK=>?_|refine IL.ap ae fun a w T hx K hK=>?_|refine IL.st ae fun a w T hx K v hA hv hK=>?_
               .exact za5
               .exact za2
               .exact zaw
               .exact za5
               .exact za2
               .have e110:=T 110 _ rfl;have e111:=T 111 _ rfl;exact zcR
               .have e112:=T 112 _ rfl;have q1:=hx.cell cO.o;exact zdp
               .exact zaw
               .exact za5
               .exact za2
               .have e115:=T 115 _ rfl;have e116:=T 116 _ rfl;exact zcR
               .have e117:=T 117 _ rfl;have q1:=hx.cell cO.o;exact zdp
               .have dU:=T 11 _ rfl;exact zdp
               .have e118:=T 118 _ rfl;have e119:=T 119 _ rfl;have q1:=aG.o.2.2.1;have q2:=aG.o.2.2.2.1;exact zdp
               .have e120:=T 120 _ rfl;have q1:=hx.cell dO.o;exact zdp
               .have e114:=T 114 _ rfl;have e121:=T 121 _ rfl;clear T;go_simp;refine(cK.o w hx).mono ?_;rintro e w'⟨rfl,h5⟩;exact hK _ h5
               .exact za5
               .exact za1
               .have e123:=T 123 _ rfl;have e124:=T 124 _ rfl;exact zcQ
               .have e125:=T 125 _ rfl;have q1:=hx.cell dM.o;exact zdp
               .have e109:=T 109 _ rfl;have e113:=T 113 _ rfl;have e122:=T 122 _ rfl;have e126:=T 126 _ rfl;clear T;go_simp;refine(eJ.o w hx).mono ?_;exact zcO
               .have e107:=T 107 _ rfl;have e108:=T 108 _ rfl;exact zcR
               .have e128:=T 128 _ rfl;have e127:=hv 127 _ rfl rfl;clear T;obtain⟨g7,rfl,ho⟩:=hA;have H5:=(aA.o.later hx);have aR:=aA.o.fresh (b':=0) (u:= .slice (some ⟨g7,0,none⟩) N N) ho;have aI:=H5.set (i:=i) (u:= .slice (some ⟨g7,0,none⟩) N N) (f:=Cn p m ml (a4 i) z4 (a4 s)) (by have h:=Bj ho (show base<=wr.heap.size from by have:=aA.o.em.o.lt;omega);rw[Cy];exact h) aR.1 aR.2;have q1:=H5.em.o.cell aU.o.2.2;have q2:=H5.em.o.frz i;have cJ:=Aa aI;clear ho H5 aR aI;go_simp;exact hK _ ⟨_,cJ⟩
              .intro v w9 hF;obtain⟨bB,eH⟩:=hF;clear cG cA cO dO dM cK;simp only[Cg,Act.put,γa,δb,δc];go_wp2_with fail
               go_roundw
               case rel=>exact⟨i+1,bB,_,ac,by go_num,eH,eE,eA,eK,bG⟩
               case measure=>exact Ωm
           .obtain rfl:i=R:=by omega
            have b1:decide (i<i)=false:=ag;obtain⟨eB,eI,eD,dZ⟩:=Of (show wr.ownsRow base 3 1 (.slice pa s pc) s (Aj (pI piv)) from by have:=aA.o.po;rw[HS.o]at this;exact this) (show base<=wr.heap.size from by have:=aA.o.em.o.lt;omega) (aC.o.done (by rw[HS.o];exact hsR) (by rw[HS.o];exact aZ.o) (fun j hj dS=>bH.o j hj (by rw[<-HS.o];exact dS))) (show(piv ++ [c]).length=s+1 from by rw[List.length_append,HS.o];rfl);clear aZ bH aC;go_wp2_with (at_builtin;refine Al _ rfl _ _ 22 rfl base 3 (.int .i64 0) 1 8 Tryz.underlying22 Az rfl ae _ s _ rfl eB.o [.int .i64 c] 3 _ rfl ag rfl aj ai ac eI.o ?_)
            intro v2 w9 aS;have eG:=Aa (aA.o.app (by rw[HS.o];exact aS));obtain⟨xa,xc,dP⟩:=Ad aS.own;subst dP;clear aS aA;go_wp2_with fail
            go_roundw
            case rel=>exact⟨c+1,piv ++ [c],_,_,ac,by go_num,by rw[dZ.o];go_num,eG,eD,aF⟩
            case measure=>exact Ωm
      .obtain rfl:k=R:=by omega
       have eC:=Aa (aC.o.none fun k' h1 h2=>hz.o k' (by rw[<-HS.o];exact h1) h2);have b1:decide (k<k)=false:=by simp
       have b2:((k:Int)==(k:Int))=true:=ag;go_wp2_with fail
       go_roundw
       case rel=>exact⟨c+1,piv,vals,a1,ac,by go_num,by rw[HS.o],aA,eC,aF⟩
       case measure=>exact Ωm
    .have k1:decide (s<R)=false:=by simpa using hsR
     have HR:=Aa (aJ.o (.inl ac));exact zcf
   .have k1:decide (c<N)=false:=by simpa using hcN
    have HR:=Aa (aJ.o (.inr ac));exact zcf
end Go.Proofs.YtehieobniamagaaGreat
