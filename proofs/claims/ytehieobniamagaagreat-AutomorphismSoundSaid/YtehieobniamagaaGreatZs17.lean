/- Walk of codewrightref31.image. -/
import Derived.Test.YtehieobniamagaaGreatZs16
namespace Go.Proofs.YtehieobniamagaaGreat
open Go.RowKit
set_option linter.all false
set_option maxRecDepth 100000
set_option maxHeartbeats 16000000
section
variable {p m:Nat} {ml:List Int} {mv:Value}
end
theorem QY(w:World)(pl sl ql tl:List Int)(pv sv qv tv:Value)(hp:Al w pv pl)(hs:Al w sv sl)(hq:Al w qv ql)(ht:Al w tv tl)(fr fs:Int):
  Calls Tryz.prog 20 #[.agg #[pv,sv,fr],.agg #[qv,tv,fs]] w fun r w'=>r= .returned (.bool (decide (fr=fs/\pl=ql/\sl=tl)))/\Ex w w':=by
 obtain⟨a0,a1,a2,ea⟩:=Bd w pv sv fr;obtain⟨b0,b1,b2,eb⟩:=Bd (w.alloc (.cells #[pv,sv,fr] 26)) qv tv fs;have aF:(w.alloc (.cells #[pv,sv,fr] 26)).heap.size=w.heap.size+1:=ag;rw[aF]at b0 b1 b2;replace a0:=eb.cell a0;replace a1:=eb.cell a1;replace a2:=eb.cell a2;obtain⟨HX,HP,HS,HQ,HT⟩:=Of (ea.trans eb) hp hs hq ht;obtain⟨pa,pc,rfl,-,q1,-⟩:=hp.open;obtain⟨sa,sc,rfl,-,q2,-⟩:=hs.open;obtain⟨qa,qc,rfl,-,q3,-⟩:=hq.open;obtain⟨ta,tc,rfl,-,q4,-⟩:=ht.open;unfold maxLen at q1 q2 q3 q4;obtain⟨B,hB⟩:=nA w.heap.size;rw[hB]at a0 a1 a2 b0 b1 b2;clear hp hs hq ht ea eb aF;go_enter Tryz.func20,Tryz.ntmps20
 go_upto_region 1 with fail
 try simp only[hB]
 clear hB;generalize (w.alloc (.cells #[.slice pa pl.length pc,.slice sa sl.length sc,fr] 26)).alloc (.cells #[.slice qa ql.length qc,.slice ta tl.length tc,fs] 26)=w1 at *;have aE:=Aa (fun w' (h:Ex w1 w')=>(⟨h.cell a0,h.cell a1,h.cell b0,h.cell b1⟩:_/\_/\_/\_));have aD:=Aa (DA w1 pl ql _ _ (HP.o.ex HX.o) (HQ.o.ex HX.o));have aI:=Aa (fun (w2:World) (h:Ex w1 w2)=>DA w2 sl tl _ _ (HS.o.ex (HX.o.trans h)) (HT.o.ex (HX.o.trans h)));by_cases h1:fr=fs
 .have k1:(fr==fs)=true:=by simpa using h1
  by_cases h2:pl=ql
  .have aA:=Aa aD.o;rw[show decide (pl=ql)=true from by simpa using h2]at aA;have aG:=Aa (And.intro h1 h2);clear h1 h2 aD;go_wp2_with fail
   refine aA.o.mono ?_;rintro e w2⟨rfl,n2,rfl⟩;have aC:=Aa ((Ex.refl w1).drewN n2);clear a0 a1 b0 b1;obtain⟨a0,a1,b0,b1⟩:=aE.o _ aC.o;have aB:=Aa (aI.o _ aC.o);obtain⟨D,hD⟩:=nA (decide (sl=tl));rw[hD]at aB;have HD:=Aa hD;clear hD;go_wp2_with fail
   refine aB.o.mono ?_;rintro e w3⟨rfl,n3,rfl⟩;have aH:=Aa ((Ex.refl w1).drewN (n2+n3));go_wp2_with fail
   go_ret;refine⟨?_,HX.o.trans aH.o⟩;have:=HD.o;have:=aG.o.1;have:=aG.o.2
   simp_all
  .have aA:=Aa aD.o;rw[show decide (pl=ql)=false from by simpa using h2]at aA;have H2:=Aa h2;clear h2 aD;go_wp2_with fail
   refine aA.o.mono ?_;rintro e w2⟨rfl,n2,rfl⟩;have aC:=Aa ((Ex.refl w1).drewN n2);go_wp2_with fail
   go_ret;refine⟨?_,HX.o.trans aC.o⟩;have:=H2.o
   simp_all
 .have k1:(fr==fs)=false:=by simpa using h1
  have H1:=Aa h1;clear h1;go_wp2_with fail
  go_ret;refine⟨?_,HX.o⟩;have:=H1.o
  simp_all
def SC(P:Prop)(r:Ending):Prop:=∃b:Bool,r= .returned (.bool b)/\(b=true↔P)
theorem CF{P:Prop}(h:¬P):SC P (.returned (.bool false)):=⟨false,rfl,⟨fun h=>bi,fun k=>absurd k h⟩⟩
theorem FI{P:Prop}(h:P):SC P (.returned (.bool true)):=⟨true,rfl,⟨fun _=>h,fun _=>rfl⟩⟩
theorem zds{P:Prop}(h:P:=by
 clear T;go_simp;exact hK _ (.refl w)):P:=h
theorem zat{P:Prop}(h:P:=by
 have e3:=T 3 _ rfl;have q1:=(aF.o.trans hx).cell A0.o;have q2:=(aF.o.trans hx).cell A1.o;have q3:=(aF.o.trans hx).cell A2.o;exact zds):P:=h
theorem zaW{P:Prop}(h:P:=by
 have cC:=T 10 _ rfl;exact zds):P:=h
theorem zaX{P:Prop}(h:P:=by
 have dB:=T 13 _ rfl;exact zds):P:=h
theorem za0{P:Prop}(h:P:=by
 have e8:=T 8 _ rfl;exact zds):P:=h
theorem zbp{P:Prop}(h:P:=by
 go_wp2_with fail
 go_roundw
 case rel=>first|exact⟨i+1,aC,a4,by omega,by go_num,aA,aD,aE,aQ,aP⟩|((repeat apply Exists.intro);exact⟨⟨i+1,aC,a4,by omega,by go_num,aA,aD,aE,aQ,aP⟩,rfl⟩)
 case measure=>simp[intOf];omega):P:=h
theorem zbY{P:Prop}(h:P:=by
 go_wp2_with fail
 go_ret2;exact⟨⟨[],none,0,ca,cc,rfl,a,dN.o,A7 _,Jz.nil dR.o⟩,aY.o.trans cI.o⟩):P:=h
theorem zcc{P:Prop}(h:P:=by
 rw[hs]at HR ⊢;have HS:=Aa hs;clear hs aJ aT aK bA aH;go_wp2_with fail
 go_ret2;exact HR.o):P:=h
theorem zcw{P:Prop}(h:P:=by
 go_region
 all_goals go_wp2_with fail
 all_goals go_meet
 all_goals exact⟨_,bB⟩):P:=h
theorem zcL{P:Prop}(h:P:=by
 rintro e w'⟨g7,rfl,ho,h5⟩;exact hK _ _ h5 ⟨g7,rfl,ho.mono hx.size⟩):P:=h
theorem zcN{P:Prop}(h:P:=by
 have q1:=aG.o.1;have q2:=aG.o.2.1;exact zds):P:=h
theorem zcO{P:Prop}(h:P:=by
 have q1:=aX.o.1;have q2:=aX.o.2.1;exact zds):P:=h
theorem Up{p m:Nat}{ml:List Int}{mv:Value}(w:World)(hf:Ha p m ml)(hF:Hf p m (lw ml))(bV:Al w mv ml)(N R:Nat)(hN:N<=256)(hR:R<=256)(a:Nat->Nat->Int)(bE:QZ p m R N a)(v:Value)(hv:BZ w v (Aw N R a)):
  Calls Tryz.prog 195 #[.agg #[p,m,mv],v,N] w fun r w'=>(∃piv pa pc la lc a',r= .returned (.tuple #[.slice la R lc,.slice pa piv.length pc])/\H7 p m ml N R a a' piv/\Al w' (.slice pa piv.length pc) (pI piv)/\R<=lc/\∀k,k<=R->Jz w.heap.size w' (.slice la k lc) (Aw N k a'))/\Ex w w':=by
 obtain⟨a0,a1,a2,ea,eF⟩:=AA w p m mv;have p2:=hf.p2;have m1:=hf.m1;have dY:0<p^m:=Nat.pow_pos ac;have dQ:=Aa (Ur _ (Aw N R a) v (hv.ex ea) (by rw[AZ];omega) (fun r hr=>by
  unfold Aw at hr;obtain⟨i,_,rfl⟩:=List.mem_map.1 hr;rw[AL];omega))
 obtain⟨va,vc,cW,v1,v2,-⟩:=hv.open;rw[AZ]at cW v1;subst cW;obtain⟨HF,cL,dI,aY⟩:=Eq (And.intro hf hF) bV bE ea;obtain⟨ma,mc,rfl,-,-,-⟩:=bV.open;obtain⟨B,hB⟩:=nA w.heap.size;rw[hB]at a0 a1 a2 eF;clear hf hF bV hv bE ea;go_enter Tryz.func195,Tryz.ntmps195
 go_wp2_with fail
 try simp only[hB]
 have HBW:=Aa hB;clear hB;generalize w.alloc (.cells #[p,m,.slice ma ml.length mc] 24)=w1 at *;have A0:=Aa a0;have A1:=Aa a1;have A2:=Aa a2;clear a0 a1 a2;refine dQ.o.mono ?_;rintro e w2⟨cv,vl,rfl,hm,cV⟩;have cI:=Aa cV;have HM:=Aa hm;clear cV hm dQ;by_cases hR0:R=0
 .subst hR0;obtain⟨ca,cc,bY⟩:=Ae HM.o.cvo;subst bY;have eI:=Aa (show BZ w2 (.slice ca 0 cc) (Aw N 0 a) from by have:=HM.o.msl;exact this);obtain⟨_,c9,e9,l9,l8,-⟩:=eI.o.open;have dR:=Aa (show cc<=maxLen from by injection e9 with _ _ h3;rw[h3];exact l8);have dN:=Aa (show H7 p m ml N 0 a a [] from⟨0,ac,PV.init dI.o,.inl rfl,fun x=>Iff.rfl⟩);have cX:(Aw N 0 a).length=0:=AZ N 0 a;rw[cX];clear e9 l9 l8 cX;go_wp2_with fail
  go_loop [9,10,11] (fun pv cH c'=>pv= .slice none 0 0/\cH= .int .i64 ((0:Nat):Int)/\∃c:Nat,c<=N/\c'= .int .i64 c) (fun _ _ c'=>N-(intOf c').toNat)
  case atStart=>exact⟨rfl,rfl,0,ac,rfl⟩
  case round=>
   obtain⟨rfl,rfl,c,hc,rfl⟩:=hrel;by_cases hcN:c<N
   .have k1:decide ((0:Nat)<0)=false:=by simp
    exact zbY
   .have k1:decide (c<N)=false:=by simpa using hcN
    exact zbY
 .obtain⟨g,cap,bY,bX⟩:=MN.of HM.o ac;subst bY;obtain⟨base,bG⟩:∃b,w1.heap.size=b:=⟨_,rfl⟩;rw[bG]at bX;obtain⟨aA,aD,aE,aF⟩:=Eq (show Mi w1 w2 base g R N cap (fun i=>vl.getD i undef) a [] (.slice none 0 0) from⟨bX,World.ownsRow_nil _ _ _ _,by simp[Value.ownBlock],fun i hi=>(AR.nil _).symm,ac,cI.o⟩) (show PV p m R N a [] 0 from PV.init dI.o) (show ∀x,BY p m ml N R a x↔BY p m ml N R a x from fun x=>Iff.rfl) (Ex.refl w1);clear bX HM;go_wp2_with fail
  go_loopw [9,10,11] (fun pv cH c' wr=>∃(c:Nat) (piv:List Nat) (vals:Nat->Value) (a1:Nat->Nat->Int),c<=N/\c'= .int .i64 c/\cH= .int .i64 piv.length/\Hia (Mi w1 wr base g R N cap vals a1 piv pv)/\Hia (PV p m R N a1 piv c)/\Hia (∀x,BY p m ml N R a1 x↔BY p m ml N R a x)) (fun _ _ c' _=>N-(intOf c').toNat)
  case atStart=>exact⟨0, [],_,a,ac,rfl,rfl,aA,aD,Aa (fun x=>Iff.rfl)⟩
  case round=>
   clear aA aD aE;obtain⟨c,piv,vals,a1,hc,rfl,rfl,aK,bA,aH⟩:=hrel;obtain⟨pa,pc,bU⟩:=Ae aK.o.po;subst bU;have aT:=bA.o.le;obtain⟨eE,eD⟩:=aK.o.em.o.caps;unfold maxLen at eD;have aJ:=Aa (show(piv.length=R∨c=N)->(∃aL cQ cP la lc a',Ending.returned (.tuple #[.slice (some ⟨g,0,none⟩) R cap,.slice pa piv.length pc])= .returned (.tuple #[.slice la R lc,.slice cQ aL.length cP])/\H7 p m ml N R a a' aL/\Al wr (.slice cQ aL.length cP) (pI aL)/\R<=lc/\∀k,k<=R->Jz w.heap.size wr (.slice la k lc) (Aw N k a'))/\Ex w wr from fun h=>⟨⟨piv,pa,pc,_,cap,a1,rfl,⟨c,hc,bA.o,h,aH.o⟩,by
    have:=Sl.own aK.o.po;unfold Al;rw[RI];exact this,eE,fun k hk=>aK.o.em.mslF (by have h1:=aK.o.hb;have h2:=aY.o.size;omega) hk⟩,aY.o.trans aK.o.ex⟩)
   obtain⟨s,hs⟩:=nA piv.length;by_cases hcN:c<N
   .by_cases hsR:s<R
    .have k1:decide (s<R)=true:=by simpa using hsR
     have HS:=Aa hs;have aA:=Aa (show Mi w1 wr base g R N cap vals a1 piv (.slice pa s pc) from by rw[<-hs];exact aK.o);rw[hs];clear hs aT aJ;have aD:=Aa bA.o;have aE:=Aa aH.o;clear aK bA aH;go_wp2_with fail
     go_loop [12] (fun k'=>∃(k:Nat),s<=k/\k<=R/\k'= .int .i64 k/\Hia (∀j,s<=j->j<k->a1 j c=0)) (fun k'=>R-(intOf k').toNat)
     case atStart=>exact⟨s,ac,ac,rfl,Aa (fun j h1 h2=>ac)⟩
     case round=>
      obtain⟨k,bW,dZ,rfl,hz⟩:=hrel;by_cases hkR:k<R
      .obtain⟨gk,ck,bS,cY,k3,k4⟩:=aA.o.em.at ac hkR hcN;have dC:=aA.o.em.o.cell hkR;rw[bS]at dC;unfold maxLen at k4;obtain⟨y,hy⟩:=nA (a1 k c);rw[hy]at cY;have i1:(0:Int)<=(k:Int):=by omega
       have i2:(k:Int)<(R:Int):=ac;have i3:(0:Int)<=(c:Int):=ac;have i4:(c:Int)<(N:Int):=ac;have b1:decide (k<R)=true:=by simpa using hkR
       by_cases aO:y=0
       .subst aO;have HZ:=Aa (show ∀j,s<=j->j<k+1->a1 j c=0 from fun j h1 h2=>by
         by_cases e:j=k
         .subst e;exact hy
         .exact hz.o j h1 ac)
        clear hy;go_wp2_with fail
        go_round
        case rel=>exact⟨k+1,ac,ac,by go_num,HZ⟩
        case measure=>simp[intOf];omega
       .have kb:(y==0)=false:=by simpa using aO
        have HY:=Aa (And.intro hy aO);have b2:((k:Int)==(R:Int))=false:=aq;have b3:(k==R)=false:=aq;have HKR:=Aa (show s<R/\k<R/\s<=k from⟨hsR,hkR,bW⟩);have dE:=Aa bS;clear hy aO bS k3 k4;have cE:=aA.o.em.o.cell hsR;have eB:=aA.o.em.o.frz s;have dA:=aA.o.em.o.frz k;have j1:(0:Int)<=(s:Int):=ac;have j2:(s:Int)<(R:Int):=ac;have bB:=Aa ((aA.o.swp hsR hkR).later (Ex.refl _).drew);rw[dE.o]at bB;go_upto_region 11 with fail
        clear cY
        go_cut [48] from 48 to 61 (fun _ wx=>∃aN,Hia (Mi w1 wx base g R N cap aN (DE a1 s k) piv (.slice pa s pc)))
        case first=>
         by_cases hsk:s=k
         .subst hsk;rw[dE.o]at bB;clear cE dA;exact zcw
         .obtain⟨gs,cs,aZ,-⟩:=aA.o.em.at ac hsR hcN;rw[aZ]at cE bB;have n1:¬s=k:=hsk;have n2:¬k=s:=fun e=>hsk e.symm;clear aZ;exact zcw
        case rest=>
         obtain⟨aN,bF⟩:=hcut;obtain⟨aA,aD,aE,bJ⟩:=Eq bF.o (show PV p m R N (DE a1 s k) piv c from by have:=aD.o.swp (k:=k) (by rw[HS.o];exact bW) hkR;rw[HS.o]at this;exact this) (show ∀x,BY p m ml N R (DE a1 s k) x↔BY p m ml N R a x from fun x=>(BY.swp hsR hkR).trans (aE.o x)) (show DE a1 s k s c=a1 k c from by unfold DE;rw[if_pos rfl]);clear bF bB cE eB dA dC i1 i2;obtain⟨a2,cZ⟩:=nA (DE a1 s k);rw[cZ]at aA aD aE bJ;clear cZ;obtain⟨gs,cs,aZ,bZ,k3,k4⟩:=aA.o.em.at ac hsR hcN;have cD:=aA.o.em.o.cell hsR;rw[aZ]at cD;unfold maxLen at k4;have cN:=Aa cD;rw[bJ.o,HY.o.1]at bZ;have dV:=Aa bZ;have hy:=aD.o.rng s hsR c hcN;rw[bJ.o,HY.o.1]at hy;obtain⟨yn,rfl⟩:∃yn:Nat,y=yn:=⟨y.toNat,ac⟩;have bR:yn<p^m:=by omega
         have bQ:1<=yn:=by have:=HY.o.2;omega
         have aG:=Aa (show(0:Int)<=(s:Int)/\(s:Int)<(R:Int)/\(0:Int)<=(c:Int)/\(c:Int)<(N:Int)/\s<R from⟨ac,ac,ac,ac,hsR⟩);have cM:=Aa (fun (w':World) (h:Ex wc w')=>by
          have:=VT (mv:= .slice ma ml.length mc) w' HF.o.1 (cL.o.ex (aY.o.trans (aA.o.ex.trans h))) (yn:Int);rw[Ay bR]at this;exact this)
         have bL:=Lg p2 m1 HF.o.2 bQ bR;have bM:=Kg (ml:=ml) dY yn;obtain⟨z,cT⟩:=nA (Ed p m ml yn);rw[cT]at cM bL bM;have dG:=Aa (fun (w':World) (h:Ex wc w')=>by
          have:=VR w' p m ml (.slice ma ml.length mc) HF.o.1 (cL.o.ex (aY.o.trans (aA.o.ex.trans h))) (z:Int) N ac (a2 s) _ ((aA.o.em.isl hsR).ex h);rw[Ay bM,aZ]at this;exact this)
         have cS:1<=z:=by
          rcases Nat.eq_zero_or_pos z with e|e
          .subst e;rw[AE ac]at bL;omega
          .omega
         have aF:=Aa aA.o.ex;have eG:=Aa (show ∀f:Nat->Int,f c=(yn:Int)->BM p m ml z f c=1 from fun f hf=>by
          unfold BM;rw[hf,Ay bR,AU,bL];rfl)
         have dD:=Aa (And.intro cS bM);have dT:=Aa (show a2 s c=(yn:Int) from by rw[bJ.o,HY.o.1]);clear bL cT aZ k3 k4 hy hz bW dZ hkR cS bM bJ HY;go_upto_if 69 with fail
         go_cut [70] from 69 to 87 (fun _ wx=>∃aB a3,Hia (Mi w1 wx base g R N cap aB a3 piv (.slice pa s pc))/\Hia (PV p m R N a3 piv c)/\Hia (∀x,BY p m ml N R a3 x↔BY p m ml N R a x)/\Hia (a3 s c=1))
         case first=>
          by_cases hy1:yn=1
          .have kb:((yn:Int) !=1)=false:=by simp[hy1]
           subst hy1;have bC:=Aa (show a2 s c=1 from dT.o);go_wp2_with fail
           go_meet
           exact⟨_,a2,aA,aD,aE,bC⟩
          .have kb:((yn:Int) !=1)=true:=by simp;omega
           have hy2:¬((yn:Int)=1):=ac;clear hy1;go_upto_region 13 with fail
           refine Ia (fun k=>([.slice (some ⟨g,0,none⟩) R cap,.int .i64 (s:Int),.agg #[(p:Int),(m:Int),.slice ma ml.length mc],.agg #[(p:Int),(m:Int),.slice ma ml.length mc],.slice (some ⟨g,0,none⟩) R cap,.int .i64 (s:Int),.pointer (some ⟨g,s,none⟩),.slice (some ⟨gs,0,none⟩) N cs,.int .i64 (c:Int),.pointer (some ⟨gs,c,none⟩),.int .i64 (yn:Int),.int .i64 (z:Int),.slice (some ⟨g,0,none⟩) R cap,.int .i64 (s:Int),.pointer (some ⟨g,s,none⟩),.slice (some ⟨gs,0,none⟩) N cs,undef,.pointer (some ⟨g,s,none⟩)]:List Value).getD k undef) 16 18 (fun v w'=>∃g7,v= .slice (some ⟨g7,0,none⟩) N N/\AH w' wc.heap.size 3 g7 N (iv (BM p m ml z (a2 s)))) (fun v w'=>∃aB,Hia (Mi w1 w' base g R N cap aB (Az a2 s (BM p m ml z (a2 s))) piv (.slice pa s pc))) (fun v wa wb ⟨g7,h1,h2⟩ hx=>⟨g7,h1,h2.ex hx⟩) ah ah ah ?_ (fun v k=>([.slice (some ⟨g,0,none⟩) R cap,.int .i64 (s:Int),.agg #[(p:Int),(m:Int),.slice ma ml.length mc],.agg #[(p:Int),(m:Int),.slice ma ml.length mc],.slice (some ⟨g,0,none⟩) R cap,.int .i64 (s:Int),.pointer (some ⟨g,s,none⟩),.slice (some ⟨gs,0,none⟩) N cs,.int .i64 (c:Int),.pointer (some ⟨gs,c,none⟩),.int .i64 (yn:Int),.int .i64 (z:Int),.slice (some ⟨g,0,none⟩) R cap,.int .i64 (s:Int),.pointer (some ⟨g,s,none⟩),.slice (some ⟨gs,0,none⟩) N cs,v,.pointer (some ⟨g,s,none⟩)]:List Value).getD k undef) (fun _=>rfl) ?_
           .simp only[AJ];refine⟨?_,?_,?_,?_,?_,?_,?_,?_,?_,?_,?_,?_,?_,?_,?_,?_,?_,?_,?_,trivial⟩
            all_goals first|refine IT.go ae fun a w T hx K hK=>?_|refine IT.ap ae fun a w T hx K hK=>?_|refine IT.st ae fun a w T hx K v hA hv hK=>?_
            .exact za0
            .exact zaW
            .exact zat
            .exact zat
            .exact za0
            .exact zaW
            .have e74:=T 74 _ rfl;have e75:=T 75 _ rfl;exact zcN
            .have e76:=T 76 _ rfl;have q1:=hx.cell cN.o;exact zds
            .have eC:=T 11 _ rfl;exact zds
            .have e77:=T 77 _ rfl;have e78:=T 78 _ rfl;have q1:=aG.o.2.2.1;have q2:=aG.o.2.2.2;exact zds
            .have e79:=T 79 _ rfl;have q1:=hx.cell dV.o;exact zds
            .have e73:=T 73 _ rfl;have e80:=T 80 _ rfl;clear T;go_simp;refine(cM.o w hx).mono ?_;rintro e w'⟨rfl,h5⟩;exact hK _ h5
            .exact za0
            .exact zaW
            .have e82:=T 82 _ rfl;have e83:=T 83 _ rfl;exact zcN
            .have e84:=T 84 _ rfl;have q1:=hx.cell cN.o;exact zds
            .have e72:=T 72 _ rfl;have e81:=T 81 _ rfl;have e85:=T 85 _ rfl;clear T;go_simp;refine(dG.o w hx).mono ?_;exact zcL
            .have e70:=T 70 _ rfl;have e71:=T 71 _ rfl;exact zcN
            .have e87:=T 87 _ rfl;have e86:=hv 86 _ rfl rfl;clear T;obtain⟨g7,rfl,ho⟩:=hA;have H5:=(aA.o.later hx);have aU:=aA.o.fresh (b':=0) (u:= .slice (some ⟨g7,0,none⟩) N N) ho;have aI:=H5.set (i:=s) (u:= .slice (some ⟨g7,0,none⟩) N N) (f:=BM p m ml z (a2 s)) (by have h:=Bj ho (show base<=wc.heap.size from by have:=aA.o.em.o.lt;omega);rw[Cu];exact h) aU.1 aU.2;have q1:=H5.em.o.cell aG.o.2.2.2.2;have q2:=H5.em.o.frz s;have cJ:=Aa aI;clear ho H5 aU aI;go_simp;exact hK _ ⟨_,cJ⟩
           .intro v w9 hF;obtain⟨aB,bP⟩:=hF;have bO:=Aa (show PV p m R N (Az a2 s (BM p m ml z (a2 s))) piv c from by have:=aD.o.scl (ml:=ml) (k:=z) ac (by rw[HS.o];exact hsR);rw[HS.o]at this;exact this);have bN:=Aa (show ∀x,BY p m ml N R (Az a2 s (BM p m ml z (a2 s))) x↔BY p m ml N R a x from fun x=>(BY.scl p2 m1 HF.o.2 hsR dD.o.1 dD.o.2).trans (aE.o x));have bC:=Aa (show Az a2 s (BM p m ml z (a2 s)) s c=1 from by rw[Ab];exact eG.o _ dT.o);simp only[Ci,Act.put,List.setIfInBounds_toArray,List.set_cons_zero,List.set_cons_succ];go_wp2_with fail
            go_meet
            exact⟨aB,_,bP,bO,bN,bC⟩
         case rest=>
          obtain⟨aB,a3,bP,bO,bN,bC⟩:=hcut;clear dG cM cN dV cD bZ aF aA aD aE;go_wp2_with fail
          go_loopw [13] (fun i' wr=>∃(i:Nat) (aC:Nat->Value) (a4:Nat->Nat->Int),i<=R/\i'= .int .i64 i/\Hia (Mi w1 wr base g R N cap aC a4 piv (.slice pa s pc))/\Hia (PV p m R N a4 piv c)/\Hia (∀x,BY p m ml N R a4 x↔BY p m ml N R a x)/\Hia (a4 s c=1)/\Hia (∀j,j<i->j≠s->a4 j c=0)) (fun i' _=>R-(intOf i').toNat)
          case atStart=>exact⟨0,aB,a3,ac,rfl,bP,bO,bN,bC,Aa (fun j h=>ac)⟩
          case round=>
           clear bP bO bN bC;obtain⟨i,aC,a4,hi,rfl,aA,aD,aE,aQ,bH⟩:=hrel;by_cases hiR:i<R
           .have b1:decide (i<R)=true:=by simpa using hiR
            by_cases his:i=s
            .have b2:((i:Int) !=(s:Int))=false:=by simp;omega
             have b3:(i !=s)=false:=aq;have aP:=Aa (show ∀j,j<i+1->j≠s->a4 j c=0 from fun j h1 h2=>bH.o j ac h2);clear his;exact zbp
            .have b2:((i:Int) !=(s:Int))=true:=by simp;omega
             have b3:(i !=s)=true:=aq;have n1:¬((i:Int)=(s:Int)):=ac;obtain⟨gi,ci,bT,cA,k3,k4⟩:=aA.o.em.at ac hiR hcN;have cG:=aA.o.em.o.cell hiR;rw[bT]at cG;unfold maxLen at k4;obtain⟨y,hy⟩:=nA (a4 i c);rw[hy]at cA;have i1:(0:Int)<=(i:Int):=bf;have i2:(i:Int)<(R:Int):=ac;have i3:(0:Int)<=(c:Int):=ac;have i4:(c:Int)<(N:Int):=ac;by_cases aO:y=0
             .subst aO;have b4:((0:Int) !=0)=false:=by simp
              have aP:=Aa (show ∀j,j<i+1->j≠s->a4 j c=0 from fun j h1 h2=>by
               by_cases e:j=i
               .subst e;exact hy
               .exact bH.o j ac h2)
              clear hy his;exact zbp
             .have kb:(y !=0)=true:=by simpa using aO
              have cU:=aD.o.rng i hiR c hcN;rw[hy]at cU;obtain⟨aR,rfl⟩:∃n:Nat,y=n:=⟨y.toNat,ac⟩;have bD:aR<p^m:=bf;obtain⟨cB,cF,aS,-,-,k5⟩:=aA.o.em.at ac hsR hcN;have aW:=aA.o.em.o.cell hsR;rw[aS]at aW;obtain⟨cO,dW,dU,aX,aF⟩:=Of cG cA aW (show(0:Int)<=(i:Int)/\(i:Int)<(R:Int)/\i<R from⟨ac,ac,hiR⟩) aA.o.ex;have cK:=Aa (fun (w':World) (h:Ex wr w')=>by
               have:=VS (mv:= .slice ma ml.length mc) w' HF.o.1 (aR:Int);rw[Ay bD]at this;exact this)
              have bK:=Dh (m:=m) (show 1<=p by omega) aR;have dM:=Aa (CQ (m:=m) (show 1<=p by omega) aR);obtain⟨z4,cR⟩:∃z,CH p m aR=z:=⟨_,rfl⟩;rw[cR]at cK bK dM;have bI:=Aa (fun (w':World) (h:Ex wr w')=>(RC p m ml (.slice ma ml.length mc) w' HF.o.1 (cL.o.ex (aY.o.trans (aA.o.ex.trans h))) (il N (a4 i)) (il N (a4 s)) _ _ ((aA.o.em.isl hiR).ex h) ((aA.o.em.isl hsR).ex h) (z4:Int) (by rw[AL,AL];omega) (by rw[AL];omega)));have eK:=Aa (fun (w':World) (h:Ex wr w')=>show Calls Tryz.prog 245 #[.agg #[p,m,.slice ma ml.length mc],.slice (some ⟨gi,0,none⟩) N ci,(z4:Int),.slice (some ⟨cB,0,none⟩) N cF] w' fun r w''=>∃g7,r= .returned (.slice (some ⟨g7,0,none⟩) N N)/\AH w'' w'.heap.size 3 g7 N (iv (BN p m ml (a4 i) z4 (a4 s)))/\Ex w' w'' from by
               have:=bI.o w' h;rw[bT,aS]at this;refine this.mono fun r w'' ⟨g7,h1,h2,h3⟩=>?_;rw[AL]at h1 h2;refine⟨g7,h1,h2.icongr fun j hj=>?_,h3⟩;rw[XM ac hj,Ay bK])
              have aP:=Aa (show ∀j,j<i+1->j≠s->Az a4 i (BN p m ml (a4 i) z4 (a4 s)) j c=0 from fun j h1 h2=>by
               by_cases e:j=i
               .subst e;rw[Ab];unfold BN;rw[aQ.o,if_neg ae,hy,Ay bD,(show Ar (p^m) 1=1 from Ay (q:=p^m) (x:=1) (Bz p2 m1)),BA p2 m1 bK,dM.o];rfl
               .rw[Ad _ _ e];exact bH.o j ac h2)
              have dS:=Aa (show Az a4 i (BN p m ml (a4 i) z4 (a4 s)) s c=1 from by rw[Ad _ _ (fun e=>his e.symm)];exact aQ.o);have dL:=Aa (show PV p m R N (Az a4 i (BN p m ml (a4 i) z4 (a4 s))) piv c from by have:=aD.o.add (ml:=ml) (k:=z4) ac (by rw[HS.o];exact hsR) hiR (by rw[HS.o];exact his);rw[HS.o]at this;exact this);have dH:=Aa (show ∀x,BY p m ml N R (Az a4 i (BN p m ml (a4 i) z4 (a4 s))) x↔BY p m ml N R a x from fun x=>(BY.add p2 hsR hiR his).trans (aE.o x));clear bT aS cR bK hy aO his cU k5 aW bI;go_upto_region 18 with fail
              refine Ia (fun k=>([.slice (some ⟨g,0,none⟩) R cap,.int .i64 (i:Int),.agg #[(p:Int),(m:Int),.slice ma ml.length mc],.slice (some ⟨g,0,none⟩) R cap,.int .i64 (i:Int),.pointer (some ⟨g,i,none⟩),.slice (some ⟨gi,0,none⟩) N ci,.agg #[(p:Int),(m:Int),.slice ma ml.length mc],.slice (some ⟨g,0,none⟩) R cap,.int .i64 (i:Int),.pointer (some ⟨g,i,none⟩),.slice (some ⟨gi,0,none⟩) N ci,.int .i64 (c:Int),.pointer (some ⟨gi,c,none⟩),.int .i64 (aR:Int),.int .i64 (z4:Int),.slice (some ⟨g,0,none⟩) R cap,.int .i64 (s:Int),.pointer (some ⟨g,s,none⟩),.slice (some ⟨cB,0,none⟩) N cF,undef,.pointer (some ⟨g,i,none⟩)]:List Value).getD k undef) 20 22 (fun v w'=>∃g7,v= .slice (some ⟨g7,0,none⟩) N N/\AH w' wr.heap.size 3 g7 N (iv (BN p m ml (a4 i) z4 (a4 s)))) (fun v w'=>∃aB,Hia (Mi w1 w' base g R N cap aB (Az a4 i (BN p m ml (a4 i) z4 (a4 s))) piv (.slice pa s pc))) (fun v wa wb ⟨g7,h1,h2⟩ hx=>⟨g7,h1,h2.ex hx⟩) ah ah ah ?_ (fun v k=>([.slice (some ⟨g,0,none⟩) R cap,.int .i64 (i:Int),.agg #[(p:Int),(m:Int),.slice ma ml.length mc],.slice (some ⟨g,0,none⟩) R cap,.int .i64 (i:Int),.pointer (some ⟨g,i,none⟩),.slice (some ⟨gi,0,none⟩) N ci,.agg #[(p:Int),(m:Int),.slice ma ml.length mc],.slice (some ⟨g,0,none⟩) R cap,.int .i64 (i:Int),.pointer (some ⟨g,i,none⟩),.slice (some ⟨gi,0,none⟩) N ci,.int .i64 (c:Int),.pointer (some ⟨gi,c,none⟩),.int .i64 (aR:Int),.int .i64 (z4:Int),.slice (some ⟨g,0,none⟩) R cap,.int .i64 (s:Int),.pointer (some ⟨g,s,none⟩),.slice (some ⟨cB,0,none⟩) N cF,v,.pointer (some ⟨g,i,none⟩)]:List Value).getD k undef) (fun _=>rfl) ?_
              .simp only[AJ];refine⟨?_,?_,?_,?_,?_,?_,?_,?_,?_,?_,?_,?_,?_,?_,?_,?_,?_,?_,?_,?_,?_,?_,?_,trivial⟩
               all_goals first|refine IT.go ae fun a w T hx K hK=>?_|refine IT.ap ae fun a w T hx K hK=>?_|refine IT.st ae fun a w T hx K v hA hv hK=>?_
               .exact za0
               .exact zaX
               .exact zat
               .exact za0
               .exact zaX
               .have e110:=T 110 _ rfl;have e111:=T 111 _ rfl;exact zcO
               .have e112:=T 112 _ rfl;have q1:=hx.cell cO.o;exact zds
               .exact zat
               .exact za0
               .exact zaX
               .have e115:=T 115 _ rfl;have e116:=T 116 _ rfl;exact zcO
               .have e117:=T 117 _ rfl;have q1:=hx.cell cO.o;exact zds
               .have eC:=T 11 _ rfl;exact zds
               .have e118:=T 118 _ rfl;have e119:=T 119 _ rfl;have q1:=aG.o.2.2.1;have q2:=aG.o.2.2.2.1;exact zds
               .have e120:=T 120 _ rfl;have q1:=hx.cell dW.o;exact zds
               .have e114:=T 114 _ rfl;have e121:=T 121 _ rfl;clear T;go_simp;refine(cK.o w hx).mono ?_;rintro e w'⟨rfl,h5⟩;exact hK _ h5
               .exact za0
               .exact zaW
               .have e123:=T 123 _ rfl;have e124:=T 124 _ rfl;exact zcN
               .have e125:=T 125 _ rfl;have q1:=hx.cell dU.o;exact zds
               .have e109:=T 109 _ rfl;have e113:=T 113 _ rfl;have e122:=T 122 _ rfl;have e126:=T 126 _ rfl;clear T;go_simp;refine(eK.o w hx).mono ?_;exact zcL
               .have e107:=T 107 _ rfl;have e108:=T 108 _ rfl;exact zcO
               .have e128:=T 128 _ rfl;have e127:=hv 127 _ rfl rfl;clear T;obtain⟨g7,rfl,ho⟩:=hA;have H5:=(aA.o.later hx);have aU:=aA.o.fresh (b':=0) (u:= .slice (some ⟨g7,0,none⟩) N N) ho;have aI:=H5.set (i:=i) (u:= .slice (some ⟨g7,0,none⟩) N N) (f:=BN p m ml (a4 i) z4 (a4 s)) (by have h:=Bj ho (show base<=wr.heap.size from by have:=aA.o.em.o.lt;omega);rw[Cu];exact h) aU.1 aU.2;have q1:=H5.em.o.cell aX.o.2.2;have q2:=H5.em.o.frz i;have cJ:=Aa aI;clear ho H5 aU aI;go_simp;exact hK _ ⟨_,cJ⟩
              .intro v w9 hF;obtain⟨aM,dP⟩:=hF;clear cG cA cO dW dU cK;simp only[Ci,Act.put,List.setIfInBounds_toArray,List.set_cons_zero,List.set_cons_succ];go_wp2_with fail
               go_roundw
               case rel=>first|exact⟨i+1,aM,_,ac,by go_num,dP,dL,dH,dS,aP⟩|((repeat apply Exists.intro);exact⟨⟨i+1,aM,_,ac,by go_num,dP,dL,dH,dS,aP⟩,rfl⟩)
               case measure=>simp[intOf];omega
           .obtain rfl:i=R:=by omega
            have b1:decide (i<i)=false:=ag;obtain⟨eH,eJ,dK,dF⟩:=Eq (show wr.ownsRow base 3 1 (.slice pa s pc) s (Ao (pI piv)) from by have:=aA.o.po;rw[HS.o]at this;exact this) (show base<=wr.heap.size from by have:=aA.o.em.o.lt;omega) (aD.o.done (by rw[HS.o];exact hsR) (by rw[HS.o];exact aQ.o) (fun j hj eA=>bH.o j hj (by rw[<-HS.o];exact eA))) (show(piv ++ [c]).length=s+1 from by rw[List.length_append,HS.o];rfl);clear aQ bH aD;go_wp2_with (at_builtin;refine Am _ rfl _ _ 22 rfl base 3 (.int .i64 0) 1 8 Tryz.underlying22 AC rfl ae _ s _ rfl eH.o [.int .i64 c] 3 _ rfl ag rfl aj ai ac eJ.o ?_)
            intro v2 w9 aV;have dO:=Aa (aA.o.app (by rw[HS.o];exact aV));obtain⟨xa,xc,dX⟩:=Ae aV.own;subst dX;clear aV aA;go_wp2_with fail
            go_roundw
            case rel=>first|exact⟨c+1,piv ++ [c],_,_,ac,by go_num,by rw[dF.o];go_num,dO,dK,aE⟩|((repeat apply Exists.intro);exact⟨⟨c+1,piv ++ [c],_,_,ac,by go_num,by rw[dF.o];go_num,dO,dK,aE⟩,rfl⟩)
            case measure=>simp[intOf];omega
      .obtain rfl:k=R:=by omega
       have dJ:=Aa (aD.o.none fun k' h1 h2=>hz.o k' (by rw[<-HS.o];exact h1) h2);have b1:decide (k<k)=false:=by simp
       have b2:((k:Int)==(k:Int))=true:=ag;go_wp2_with fail
       go_roundw
       case rel=>first|exact⟨c+1,piv,vals,a1,ac,by go_num,by rw[HS.o],aA,dJ,aE⟩|((repeat apply Exists.intro);exact⟨⟨c+1,piv,vals,a1,ac,by go_num,by rw[HS.o],aA,dJ,aE⟩,rfl⟩)
       case measure=>simp[intOf];omega
    .have k1:decide (s<R)=false:=by simpa using hsR
     have HR:=Aa (aJ.o (.inl ac));exact zcc
   .have k1:decide (c<N)=false:=by simpa using hcN
    have HR:=Aa (aJ.o (.inr ac));exact zcc
theorem H7.le{p m N R:Nat}{ml:List Int}{a a':Nat->Nat->Int}{piv:List Nat}(h:H7 p m ml N R a a' piv):piv.length<=R:=by
 obtain⟨c,_,h,_⟩:=h;exact h.le
theorem PI{p m:Nat}{ml:List Int}{mv:Value}(w:World)(hf:Ha p m ml)(hF:Hf p m (lw ml))(aB:Al w mv ml)(N R:Nat)(hN:N<=256)(hR:R<=256)(a:Nat->Nat->Int)(aA:QZ p m R N a)(v:Value)(hv:BZ w v (Aw N R a)):
  Calls Tryz.prog 146 #[.agg #[p,m,mv],v,N] w fun r w'=>∃piv pv rv a',r= .returned (.tuple #[rv,pv])/\H7 p m ml N R a a' piv/\BZ w' rv (Aw N piv.length a')/\Al w' pv (pI piv)/\Ex w w'/\Jz w.heap.size w' rv (Aw N piv.length a'):=by
 obtain⟨a0,a1,a2,ea,aK⟩:=AA w p m mv;have aI:=Aa (Up (w.alloc (.cells #[p,m,mv] 24)) hf hF (aB.ex ea) N R hN hR a aA v (hv.ex ea));have HE:=Aa ea;obtain⟨va,vc,aF,v1,v2,-⟩:=hv.open;rw[AZ]at aF v1;subst aF;obtain⟨ma,mc,rfl,-,-,-⟩:=aB.open;clear hf hF aB hv aA ea;go_enter Tryz.func146,Tryz.ntmps146
 go_wp2_with fail
 refine aI.o.mono ?_;rintro e w2⟨⟨piv,pa,pc,la,lc,a',rfl,aD,aG,hlc,aC⟩,hx⟩;have hk:=aD.le;have aE:=Aa aD;have aH:=Aa ((aC _ hk).mono (by have:=HE.o.size;omega:w.heap.size<=_));have aM:=Aa aH.o.msl;have aL:=Aa aG;have HX:=Aa (HE.o.trans hx);have l2:lc<=maxLen:=by
  obtain⟨l3,l4,aJ,l1,l2,_⟩:=(aC _ (Nat.le_refl R)).msl.open;injection aJ with _ _ h3;rw[h3];exact l2
 unfold maxLen at l2;have k1:(0:Int)<=(piv.length:Int):=ac;have k2:(piv.length:Int)<=(lc:Int):=ac;clear aD aC aG hx aI HE a0 a1 a2 aK;go_wp2_with fail
 go_ret2;exact⟨piv,_,_,a',rfl,aE.o,aM.o,aL.o,HX.o,aH.o⟩
theorem Rz{p m:Nat}{ml:List Int}{mv:Value}(w:World)(hf:Ha p m ml)(hF:Hf p m (lw ml))(aB:Al w mv ml)(N R:Nat)(hN:N<=256)(hR:R<=256)(a:Nat->Nat->Int)(aA:QZ p m R N a)(v:Value)(hv:BZ w v (Aw N R a)):
  Calls Tryz.prog 146 #[.agg #[p,m,mv],v,N] w fun r w'=>∃piv pv rv a',r= .returned (.tuple #[rv,pv])/\H7 p m ml N R a a' piv/\BZ w' rv (Aw N piv.length a')/\Al w' pv (pI piv)/\Ex w w':=
 (PI w hf hF aB N R hN hR a aA v hv).mono fun r w' ⟨piv,pv,rv,a',h1,h2,h3,h4,h5,_⟩=>⟨piv,pv,rv,a',h1,h2,h3,h4,h5⟩
theorem WK{w:World}{v:Value}(h:Al w v []):∃a c,v= .slice a 0 c:=by
 obtain⟨a,c,rfl,_⟩:=h.open;exact⟨a,c,rfl⟩
theorem BZ.vals{w:World}{v:Value}{rows:List (List Int)}(h:BZ w v rows):∃us:List Value,Sl w v rows.length 1 us/\us.length=rows.length/\∀(i:Nat) (r:List Int) (u:Value),rows[i]?=some r->us[i]?=some u->Al w u r:=by
 obtain⟨vals,h1,h2⟩:=h;exact⟨vals,h1,by have:=h1.1;omega,h2⟩
theorem UR(w:World)(B:Nat)(n:Int)(a:Option Addr)(l cap:Nat)(c0:w.cell? (B,0)=some (.int .i64 n)):
  Calls Tryz.prog 176 #[.slice a l cap,.pointer (some (B,0))] w fun r w'=>r= .returned (.bool ((l:Int) !=n))/\∃q,w'=w.drewN q:=by
 go_enter Tryz.func176,Tryz.ntmps176
 go_wp2_with fail
 go_ret;exact⟨rfl,0,rfl⟩
theorem zbL{P:Prop}(h:P:=by
 clear ho;go_wp2_with (go_at_call 71;refine aD.o.mono ?_;rintro e w'⟨rfl,q,rfl⟩)
 go_ret;exact⟨Af HP.o.symm,EX.o.drewN q⟩):P:=h
theorem GM(w:World)(n:Int)(rows:List (List Int))(v:Value)(hv:BZ w v rows):
  Calls Tryz.prog 124 #[n,v] w fun r w'=>r= .returned (.int .i64 (Es n rows))/\Ex w w':=by
 have HV:=Aa hv;obtain⟨a,cap,rfl,s1,s2,s3⟩:=hv.open;unfold maxLen at s2;have e0:Ex w (w.alloc (.cells #[n] 3)):=(Ex.refl _).alloc _;have c0:(w.alloc (.cells #[n] 3)).cell? (w.heap.size,0)=some (.int .i64 n):=ag;have S3:=Aa (hv.ex e0).open;clear s3 hv;go_enter Tryz.func124,Tryz.ntmps124
 go_wp2_with fail
 generalize w.alloc (.cells #[n] 3)=w1 at *;refine(H6 w1 n).mono ?_;rintro e w2⟨rfl,rfl⟩;by_cases hd:n<1∨64<n
 .have hz:Mr n=4:=if_pos hd;have HP:=Aa (show Es n rows=4 from if_pos hd);exact zcU
 .have hz:Mr n=0:=if_neg hd;have HG:=Aa (show Es n rows=Sj n rows from if_neg hd);rw[hz];have E0:=Aa e0;have C0:=Aa c0;clear hd hz e0 c0;go_wp2_with fail
  go_loopw [16] (fun k' wr=>∃(k:Nat),k<=rows.length/\k'= .int .i64 k/\Hia (∀(i:Nat) (r:List Int),i<k->rows[i]?=some r->BR r=0)/\Hia (Ex w1 wr)) (fun k' _=>rows.length-(intOf k').toNat)
  case atStart=>exact⟨0,ac,rfl,Aa (fun i x h=>ac),Aa (Ex.refl _)⟩
  case round=>
   obtain⟨k,hk,rfl,aA,hx⟩:=hrel;by_cases hkn:k<rows.length
   .obtain⟨b,o,rfl,hc⟩:∃b o,a=some ⟨b,o,none⟩/\∀(i:Nat) (r:List Int),rows[i]?=some r->∃u,w1.cell? ⟨b,o+i,none⟩=some u/\Al w1 u r:=by
     exact zch
    obtain⟨r,aC⟩:∃r,rows[k]?=some r:=⟨_,List.getElem?_eq_getElem hkn⟩;obtain⟨u,c1,hu⟩:=hc k r aC;have c1:=hx.o.cell c1;have i1:(0:Int)<=(k:Int):=ac;have i2:(k:Int)<(rows.length:Int):=ac;have aF:=Aa (JI wr r u (hu.ex hx.o));obtain⟨e,he⟩:=nA (BR r);rw[he]at aF;by_cases h0:e=0
    .have HA:=Aa (show ∀(i:Nat) (s:List Int),i<k+1->rows[i]?=some s->BR s=0 from fun i s hi hs=>by
      by_cases e2:i=k
      .subst e2;rw[aC]at hs;injection hs with hs;subst hs;rw[he,h0]
      .exact aA.o i s ac hs)
     subst h0;clear hc aC hu he aA;go_wp2_with (go_at_call 57;refine aF.o.mono ?_;rintro e w'⟨rfl,aB⟩;have aE:=Aa (hx.o.trans aB);clear aB)
     go_roundw
     case rel=>exact⟨k+1,ac,by go_num,HA,aE⟩
     case measure=>simp[intOf];omega
    .have hb:(e !=0)=true:=by simpa using h0
     have HP:=Aa (show Es n rows=e from by rw[HG.o,XP aC (by rw[he];exact h0) (fun j s hj hs=>aA.o j s hj hs)];exact he);clear hc aC hu he aA h0;go_wp2_with (go_at_call 57;refine aF.o.mono ?_;rintro e w'⟨rfl,aB⟩;have aE:=Aa (hx.o.trans aB);clear aB)
     go_ret;exact⟨Af HP.o.symm,E0.o.trans aE.o⟩
   .obtain rfl:k=rows.length:=by omega
    have aK:=Aa (Nv (n:=n) fun j s hs=>aA.o j s (List.getElem?_eq_some_iff.1 hs).1 hs);have EX:=Aa (E0.o.trans hx.o);have c0:=hx.o.cell C0.o;obtain⟨us,aH,aL,aG⟩:=(HV.o.ex EX.o).vals;have aD:=Aa (JD wr (.pointer (some ⟨w.heap.size,0,none⟩)) (.slice a rows.length cap) rows.length us aH (fun i=>((rows.getD i []).length:Int) !=n) fun q i u hu=>by
     have hi:i<rows.length:=by have:=(List.getElem?_eq_some_iff.1 hu).1;omega
     have aI:rows[i]?=some (rows[i]):=List.getElem?_eq_getElem hi;have hd:rows.getD i []=rows[i]:=by rw[List.getD_eq_getElem?_getD,aI];rfl
     rw[hd];obtain⟨ua,uc,rfl,_⟩:=(aG i _ u aI hu).open;exact UR _ w.heap.size n ua _ uc (((Ex.refl wr).drewN q).cell c0))
    have aJ:=Aa (show((List.range rows.length).any fun i=>((rows.getD i []).length:Int) !=n)=decide (∃r∈rows,(r.length:Int)≠n) from by
     rw[Bool.eq_iff_iff];simp only[List.any_eq_true,List.mem_range,decide_eq_true_eq,bne_iff_ne];constructor
     .exact zaE
     .rintro⟨x,hx,h⟩;obtain⟨i,hi,rfl⟩:=List.getElem_of_mem hx;exact⟨i,hi,by rw[List.getD_eq_getElem?_getD,List.getElem?_eq_getElem hi];exact h⟩)
    rw[aJ.o]at aD;clear aA aJ aH aL aG c0 hx;by_cases ho:∃r∈rows,(r.length:Int)≠n
    .have HP:=Aa (show Es n rows=10 from by rw[HG.o,aK.o,if_pos ho]);rw[decide_eq_true ho]at aD;exact zbL
    .have HP:=Aa (show Es n rows=0 from by rw[HG.o,aK.o,if_neg ho]);rw[decide_eq_false ho]at aD;exact zbL
def thL(p q:List Int):List Int:=p.map fun x=>q.getD x.toNat 0
def unL(n:Nat):List Int:=li n Ek
theorem thL_li{n:Nat}{f g:Nat->Nat}(hf:∀i,i<n->f i<n):thL (li n f) (li n g)=li n (Aq f g):=by
 apply List.ext_getElem?;intro i;unfold thL;by_cases hi:i<n
 .rw[List.getElem?_map,Dl hi,Dl hi];show some ((li n g).getD (f i:Int).toNat 0)=_
  rw[Int.toNat_natCast,List.getD_eq_getElem?_getD,Dl (hf i hi)];rfl
 .rw[List.getElem?_eq_none (by rw[List.length_map,Ch];omega),List.getElem?_eq_none eh]
theorem ret_ve{v:Value}{e e':Int}(h:e=e'):Ending.returned (.tuple #[v,e])= .returned (.tuple #[v,e']):=by rw[h]
structure Mx(mb mb':List Nat)(w w':World):Prop where
 os:w'.os=w.os
 tape:w'.tape=w.tape
 output:w'.output=w.output
 size:w.heap.size<=w'.heap.size
 block:∀i,i<w.heap.size->i ∉ mb->w'.heap[i]?=w.heap[i]?
 mb:∀B∈mb',B∈mb∨w.heap.size<=B
theorem Mx.ofEx{w w':World}(h:Ex w w')(mb:List Nat):Mx mb mb w w':=⟨h.os,h.tape,h.output,h.size,fun i hi _=>h.block i hi,fun B h=> .inl h⟩
theorem Mx.trans{a b c:List Nat}{u v w:World}(h:Mx a b u v)(k:Mx b c v w):Mx a c u w:=
 ⟨k.os.trans h.os,k.tape.trans h.tape,k.output.trans h.output,Nat.le_trans h.size k.size,fun i hi hn=>by
  rw[k.block i (Nat.lt_of_lt_of_le hi h.size) (fun hb=>by
   rcases h.mb i hb with h1|h1
   .exact hn h1
   .omega),h.block i hi hn],fun B hB=>by
  rcases k.mb B hB with h1|h1
  .exact h.mb B h1
  .exact .inr (Nat.le_trans h.size h1)⟩
theorem Mx.ex{mb aA:List Nat}{w0 w w':World}(h:Mx mb aA w w')(hx:Ex w0 w)(hb:∀B∈mb,w0.heap.size<=B):Ex w0 w':=
 ⟨h.os.trans hx.os,h.tape.trans hx.tape,h.output.trans hx.output,Nat.le_trans hx.size h.size,fun i hi=>by
  rw[h.block i (Nat.lt_of_lt_of_le hi hx.size) (fun h1=>by have:=hb i h1;omega)];exact hx.block i hi⟩
theorem Mx.cell{mb aA:List Nat}{w w':World}(h:Mx mb aA w w'){a:Addr}{u:Value}(hc:w.cell? a=some u)(hn:a.block ∉ mb):w'.cell? a=some u:=by
 rw[<-hc];exact World.cell?_of_block (h.block a.block (World.block_lt_of_cell? _ _ hc) hn)
structure Cx(w:World)(mb:List Nat)(n:Nat)(u:Value)(f:Nat->Nat):Prop where
 sl:Al w u (li n f)
 at_:∃b o cap,u= .slice (some ⟨b,o,none⟩) n cap/\cap<=maxLen/\b ∉ mb/\b<w.heap.size/\∀j,j<n->w.cell? ⟨b,o+j,none⟩=some (.int .i64 (f j:Int))
theorem Cx.of{w:World}{mb:List Nat}{n:Nat}{u:Value}{f:Nat->Nat}(h:Al w u (li n f))(hn:1<=n)(hb:∀B,u.ownBlock=some B->B ∉ mb):Cx w mb n u f:=by
 refine⟨h,?_⟩;obtain⟨a,cap,rfl,h1,h2,h3⟩:=DU h;obtain⟨b,o,rfl,h4⟩:=h3 hn;exact⟨b,o,cap,rfl,h2,hb b rfl,World.block_lt_of_cell? _ _ (h4 0 hn),h4⟩
theorem Cx.mx{mb aA:List Nat}{w w':World}{n:Nat}{u:Value}{f:Nat->Nat}(h:Cx w mb n u f)(hx:Mx mb aA w w'):Cx w' aA n u f:=by
 obtain⟨b,o,cap,rfl,h1,h2,h3,h4⟩:=h.at_;have hs:Al w' (.slice (some ⟨b,o,none⟩) n cap) (li n f):=by
  obtain⟨k1,a,c,k2,k3,k4,k5⟩:=h.sl;refine⟨k1,a,c,k2,k3,k4,fun hn=>?_⟩;obtain⟨b',o',k6,k7⟩:=k5 hn;injection k2 with k2 _ _;rw[k6]at k2;injection k2 with k2;injection k2 with k2 k8;subst k2 k8;exact⟨b,o,k6,fun j u hu=>hx.cell (k7 j u hu) h2⟩
 refine⟨hs,b,o,cap,rfl,h1,fun hb=>?_,Nat.lt_of_lt_of_le h3 hx.size,fun j hj=>hx.cell (h4 j hj) h2⟩;rcases hx.mb b hb with h5|h5
 .exact h2 h5
 .omega
theorem Cx.ex{mb:List Nat}{w w':World}{n:Nat}{u:Value}{f:Nat->Nat}(h:Cx w mb n u f)(hx:Ex w w'):Cx w' mb n u f:=h.mx (Mx.ofEx hx mb)
theorem Cx.new{mb:List Nat}{w w':World}{n g:Nat}{f:Nat->Nat}(hn:1<=n)(h:AH w' w.heap.size 3 g n (iv fun i=>(f i:Int)))(hb:∀B∈mb,B<w.heap.size):Cx w' mb n (.slice (some (g,0)) n n) f:=
 Cx.of h.li hn fun B e hB=>by
  injection e with e;have:=h.lt.1;have:=hb B hB;dsimp only at *;omega
def L8(w:World)(mb:List Nat)(n:Nat)(o:Option (Nat->Nat))(u:Value):Prop:=match o with
 | none=>u= .slice none 0 0
 | some r=>Cx w mb n u r
theorem L8.mx{mb aA:List Nat}{w w':World}{n:Nat}{o:Option (Nat->Nat)}{u:Value}(h:L8 w mb n o u)(hx:Mx mb aA w w'):L8 w' aA n o u:=by
 cases o with
 | none=>exact h
 | some r=>exact Cx.mx (show Cx w mb n u r from h) hx
structure Sn(w:World)(base n tb rb gb:Nat)(rr:Nat->Nat)(gv:Nat->Value)(V:Nat->Nat->Value)(mb:List Nat)(t:Tw):Prop where
 c0:w.cell? (tb,0)=some (.int .i64 n)
 c1:w.cell? (tb,1)=some (.slice (some (rb,0)) n n)
 c2:w.cell? (tb,2)=some (.slice (some (gb,0)) n n)
 tm:tb ∉ mb
 ro:∀b,b<n->w.cell? ⟨rb,b,none⟩=some (.slice (some ⟨rr b,0,none⟩) n n)
 rm:rb ∉ mb
 row:∀b,b<n->AH w base 22 (rr b) n (V b)
 rep:∀b x,b<n->x<n->L8 w mb n (t.R b x) (V b x)
 go:AH w base 37 gb n gv
 gro:∀b,b<n->∃vals:List Value,w.ownsRow base 22 1 (gv b) (t.g b).length vals/\∀(i:Nat) (f:Nat->Nat) (u:Value),(t.g b)[i]?=some f->vals[i]?=some u->Cx w mb n u f
 gm:gb∈mb
 rrm:∀b,b<n->rr b∈mb
 gvm:∀b B,b<n->(gv b).ownBlock=some B->B∈mb/\B≠gb/\∀c,c<n->B≠rr c
 grr:∀b,b<n->gb≠rr b
 rri:∀b c,b<n->c<n->rr b=rr c->b=c
 gvi:∀b c B,b<n->c<n->(gv b).ownBlock=some B->(gv c).ownBlock=some B->b=c
 lo:∀B∈mb,base<=B/\B<w.heap.size
section
variable {w:World} {base n tb rb gb:Nat} {rr:Nat->Nat} {gv:Nat->Value} {V:Nat->Nat->Value} {mb:List Nat} {t:Tw}
theorem Sn.ex(h:Sn w base n tb rb gb rr gv V mb t){w':World}(hx:Ex w w'):Sn w' base n tb rb gb rr gv V mb t:=
 ⟨hx.cell h.c0,hx.cell h.c1,hx.cell h.c2,h.tm,fun b hb=>hx.cell (h.ro b hb),h.rm,fun b hb=>(h.row b hb).ex hx,fun b x hb aA=>(h.rep b x hb aA).mx (Mx.ofEx hx mb),h.go.ex hx,fun b hb=>by
  obtain⟨vals,h1,h2⟩:=h.gro b hb;exact⟨vals,Aj h1 hx,fun i f u a c=>(h2 i f u a c).ex hx⟩,h.gm,h.rrm,h.gvm,h.grr,h.rri,h.gvi,fun B hB=>⟨(h.lo B hB).1,Nat.lt_of_lt_of_le (h.lo B hB).2 hx.size⟩⟩
theorem Sn.low(h:Sn w base n tb rb gb rr gv V mb t):∀B∈mb,B<w.heap.size:=fun B hB=>(h.lo B hB).2
theorem b8{P:Prop}(h:P:=by simp[World.setCell]):P:=h
theorem Sn.setRep(h:Sn w base n tb rb gb rr gv V mb t){b x:Nat}{q:Nat->Nat}{u:Value}(hb:b<n)(hx:x<n)(hu:Cx w mb n u q):
  Sn (w.setCell (rr b,x) u) base n tb rb gb rr gv (fun c=>if c=b then Az (V b) x u else V c) mb (Ml t b x q)/\Mx mb mb w (w.setCell (rr b,x) u):=by
 have hm:=h.rrm b hb;have aB:(w.setCell (rr b,x) u).heap.size=w.heap.size:=b8;have aA:Mx mb mb w (w.setCell (rr b,x) u):=⟨rfl,rfl,rfl,ac,fun i hi hn=>Below.heap_setCell _ _ _ _ (fun e=>hn (by have e:i=rr b:=e;rw[e];exact hm)),fun B hB=> .inl hB⟩;refine⟨⟨aA.cell h.c0 h.tm,aA.cell h.c1 h.tm,aA.cell h.c2 h.tm,h.tm,fun c hc=>aA.cell (h.ro c hc) h.rm,h.rm,fun c hc=>?_,fun c y hc hy=>?_,h.go.other (h.grr b hb) u,fun c hc=>?_,h.gm,h.rrm,h.gvm,h.grr,h.rri,h.gvi,fun B hB=>by rw[aB];exact h.lo B hB⟩,aA⟩
 .by_cases e:c=b
  .subst e;rw[if_pos rfl];exact(h.row c hc).set x u
  .rw[if_neg e];exact(h.row c hc).other (fun e2=>e (h.rri c b hc hb e2)) u
 .show L8 _ mb n (if c=b/\y=x then some q else t.R c y) ((if c=b then Az (V b) x u else V c) y)
  by_cases e:c=b
  .subst e;rw[if_pos rfl];by_cases e2:y=x
   .subst e2;rw[if_pos ⟨rfl,rfl⟩,Ab];exact Cx.mx hu aA
   .rw[if_neg (fun e3=>e2 e3.2),Ad _ _ e2];exact(h.rep c y hc hy).mx aA
  .rw[if_neg (fun e3=>e e3.1),if_neg e];exact(h.rep c y hc hy).mx aA
 .obtain⟨vals,h1,h2⟩:=h.gro c hc;exact⟨vals,Ac h1 (fun e=>(h.gvm c _ hc e).2.2 b hb rfl) u,fun i f v a d=>(h2 i f v a d).mx aA⟩
theorem za3{P:Prop}(h:P:=by
 have:=h.lo B h1;exact⟨this.1,by omega⟩):P:=h
theorem Sn.addGen(h:Sn w base n tb rb gb rr gv V mb t){b:Nat}{p:Nat->Nat}{u:Value}(hb:b<n)(hu:Cx w mb n u p){w':World}{v':Value}{vals:List Value}(hv:∀(i:Nat) (f:Nat->Nat) (u:Value),(t.g b)[i]?=some f->vals[i]?=some u->Cx w mb n u f)
  (ha:Bv w w' base 22 1 (gv b) v' (t.g b).length vals [u]):
  ∃aH,Sn (w'.setCell (gb,b) v') base n tb rb gb rr (Az gv b v') V aH (Sk t b p)/\Mx mb aH w (w'.setCell (gb,b) v'):=by
 obtain⟨o,hg⟩:=ha.gr;have hgs:=ha.grow;have aO:∀B,v'.ownBlock=some B->B∈mb∨w.heap.size<B:=fun B e=>by
  rcases ha.at_ with h1|h1
  .rw[h1]at e;exact .inl (h.gvm b B hb e).1
  .rw[h1]at e;injection e with e;right;omega
 have aF:∀i,i<w.heap.size->some i≠(gv b).ownBlock->w'.heap[i]?=w.heap[i]?:=fun i hi aE=>by
  have h1:=hg.block i aq aE;rw[h1];exact((Ex.refl w).alloc o).block i hi
 have aJ:(w'.setCell (gb,b) v').heap.size=w'.heap.size:=b8;have aM:=ha.own.lt;have aD:w'.os=w.os/\w'.tape=w.tape/\w'.output=w.output:=⟨hg.os.trans rfl,hg.tape.trans rfl,hg.output.trans rfl⟩;have aB:Mx mb (v'.ownBlock.toList++mb) w (w'.setCell (gb,b) v'):=by
  refine⟨aD.1,aD.2.1,aD.2.2,by rw[aJ];omega,fun i hi hn=>?_,fun B hB=>?_⟩
  .rw[Below.heap_setCell _ _ _ _ (fun e=>hn (by have e:i=gb:=e;rw[e];exact h.gm)),aF i hi (fun e=>hn (h.gvm b i hb e.symm).1)]
  .rcases List.mem_append.1 hB with h1|h1
   .rcases aO B br with h2|h2
    .exact .inl h2
    .exact .inr ac
   .exact .inl h1
 have aC:∀ {e:TypeId} {size:Nat} {v:Value} {m:Nat} {xs:List Value},w.ownsRow base e size v m xs->AR v (gv b)->v.ownBlock≠some gb->(w'.setCell (gb,b) v').ownsRow base e size v m xs:=fun k hk aE=>
  Ac (ha.row k hk).1 (by exact aE) _
 have aA:∀B,(gv b).ownBlock=some B->B≠gb/\∀c,c<n->B≠rr c:=fun B e=>(h.gvm b B hb e).2;have aL:∀g,(∀B,(gv b).ownBlock=some B->B≠g)->∀(m cap:Nat),AR (.slice (some ⟨g,0,none⟩) m cap) (gv b):=fun g hh m cap=>by
  right;intro e;exact hh g e.symm rfl
 refine⟨v'.ownBlock.toList++mb,⟨aB.cell h.c0 h.tm,aB.cell h.c1 h.tm,aB.cell h.c2 h.tm,fun hc=>?_,fun c hc=>aB.cell (h.ro c hc) h.rm,fun hc=>?_,fun c hc=>?_,fun c y hc hy=>(h.rep c y hc hy).mx aB,?_,fun c hc=>?_,List.mem_append_right _ h.gm,fun c hc=>List.mem_append_right _ (h.rrm c hc),fun c B hc e=>?_,h.grr,h.rri,fun c d B hc hd e1 e2=>?_,fun B hB=>?_⟩,aB⟩
 .rcases aB.mb tb hc with h1|h1
  .exact h.tm h1
  .have:=World.block_lt_of_cell? _ _ h.c0;dsimp only at this;omega
 .rcases aB.mb rb hc with h1|h1
  .exact h.rm h1
  .have:=World.block_lt_of_cell? _ _ (h.ro b hb);dsimp only at this;omega
 .exact aC (h.row c hc) (aL (rr c) (fun B e=>(aA B e).2 c hc) n n) (fun e=>h.grr c hc (by injection e with e;exact e.symm))
 .have h1:=(ha.row h.go (aL gb (fun B e=>(aA B e).1) n n)).1;have h2:AH w' base 37 gb n gv:=h1;exact h2.set b v'
 .by_cases e:c=b
  .subst e;refine⟨vals ++ [u],?_,fun i f v h1 h2=>?_⟩
   .rw[Ab];show World.ownsRow _ base 22 1 v' (if c=c then t.g c ++ [p] else t.g c).length (vals ++ [u])
    rw[if_pos rfl,List.length_append];refine Ac ha.own (fun e=>?_) _;rcases ha.at_ with h3|h3
    .rw[h3]at e;exact(aA _ e).1 rfl
    .rw[h3]at e;injection e with e;have:=h.go.lt.2;dsimp only at e;omega
   .have h1:(if c=c then t.g c ++ [p] else t.g c)[i]?=some f:=h1;rw[if_pos rfl]at h1;have hn:vals.length=(t.g c).length:=by have:=ha.old.1;omega
    by_cases hi:i<(t.g c).length
    .rw[List.getElem?_append_left hi]at h1;rw[List.getElem?_append_left ac]at h2;exact(hv i f v h1 h2).mx aB
    .have aN:i=(t.g c).length:=by
      have:=(List.getElem?_eq_some_iff.1 h1).1;rw[List.length_append]at this;simp at this;omega
     subst aN;rw[List.getElem?_append_right ac]at h1;rw[List.getElem?_append_right ac,hn]at h2;simp at h1 h2;subst h1 h2;exact hu.mx aB
  .obtain⟨aG,h1,h2⟩:=h.gro c hc;refine⟨aG,?_,fun i f v h3 h4=>?_⟩
   .rw[Ad _ _ e];show World.ownsRow _ base 22 1 (gv c) (if c=b then t.g c ++ [p] else t.g c).length aG
    rw[if_neg e];refine aC h1 ?_ (fun e2=>(h.gvm c _ hc e2).2.1 rfl);unfold AR
    cases e2:(gv c).ownBlock with
    | none=>exact .inl rfl
    | some B=>right;intro e3;exact e (h.gvi c b B hc hb e2 e3.symm)
   .have h3:(if c=b then t.g c ++ [p] else t.g c)[i]?=some f:=h3;rw[if_neg e]at h3;exact(h2 i f v h3 h4).mx aB
 .by_cases e3:c=b
  .subst e3;rw[Ab]at e;refine⟨List.mem_append_left _ (by rw[e];simp),?_⟩;rcases ha.at_ with h1|h1
   .rw[h1]at e;exact aA B e
   .rw[h1]at e;injection e with e;subst e;have:=h.go.lt.2;exact⟨ac,fun d hd=>by have:=(h.row d hd).lt.2;omega⟩
  .rw[Ad _ _ e3]at e;have:=h.gvm c B hc e;exact⟨List.mem_append_right _ this.1,this.2⟩
 .have aI:∀ {c d B},c=b->d≠b->d<n->v'.ownBlock=some B->(gv d).ownBlock=some B->False:=fun {c d B} e hd aK k1 k2=>by
   rcases ha.at_ with h1|h1
   .rw[h1]at k1;exact hd (h.gvi d b B aK hb k2 k1)
   .rw[h1]at k1;injection k1 with k1;have:=(h.lo B (h.gvm d B aK k2).1).2;omega
  by_cases ec:c=b <;> by_cases ed:d=b
  .rw[ec,ed]
  .rw[ec,Ab]at e1;rw[Ad _ _ ed]at e2;exact(aI (c:=c) ec ed hd e1 e2).elim
  .rw[Ad _ _ ec]at e1;rw[ed,Ab]at e2;exact(aI (c:=d) ed ec hc e2 e1).elim
  .rw[Ad _ _ ec]at e1;rw[Ad _ _ ed]at e2;exact h.gvi c d B hc hd e1 e2
 .rw[aJ];rcases List.mem_append.1 hB with h1|h1
  .exact aM B br
  .exact za3
end
end Go.Proofs.YtehieobniamagaaGreat
