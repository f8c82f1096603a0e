/- Walk of AutomorphismImages (printed by gen_img.py). -/
import Derived.Test.YtehieobniamagaaGreatZi38
namespace Go.Proofs.YtehieobniamagaaGreat
open Nat renaming le_trans→μ,mul_le_mul→γo
open List renaming getElem?_eq_getElem→γ,take_length→γf
set_option linter.all false
set_option maxRecDepth 100000
set_option maxHeartbeats 16000000
open Go.RowKit
theorem Xp:(Tryz.prog.info? 39).map (fun i=>(i.zero,i.size,i.bytes))=some (some (.agg #[Ω,Ω,(),Ω,()]),5,72):=ah
theorem zcM{P:Prop}(h:P:=by
 obtain⟨c0,c1,c2,c3,c4⟩:=aA.o _ hx;exact zdp):P:=h
theorem zaN{P:Prop}(h:P:=by
 have e1:=T 1 _ rfl;exact zcM):P:=h
theorem za6{P:Prop}(h:P:=by
 have e1:=T 1 _ rfl;exact zdp):P:=h
theorem zbG{P:Prop}(h:P:=by
 go_wp2_with fail
 go_roundw
 case rel=>exact⟨j+1,by have:=bX.o;omega,by go_num,by rw[cX.o],aG⟩
 case measure=>have:=bX.o;simp[intOf];omega):P:=h
theorem zdo{P:Prop}(h:P:=by
 rintro e w3⟨rfl,aE⟩;exact hK _ aE):P:=h
theorem zcE{P:Prop}(h:P:=by
 clear T;go_simp;refine(cY.o _).mono ?_;exact zdo):P:=h
theorem dr{P:Prop}(h:P:=by rw[aH.o];exact hlt):P:=h
theorem F4(w:World)(c:AX)(m1 v1:Value)(hc:c.at w m1 v1):
  Calls Tryz.prog 7 #[c.arg m1 v1] w fun r w'=>r= .returned (.bool true)/\Ex w w':=by
 obtain⟨c0,c1,c2,c3,c4⟩:=C8 w c m1 v1;have HX:=Aa (AF w (c.obj m1 v1));have fE:=Aa (fun w'=>VD w');have eJ:=Aa (fun (w':World) (h:Ex w w')=>N5 w' c m1 v1 (hc.ex h) 6 ac);obtain⟨E1,dU,dY⟩:=codO_ex hc;obtain⟨cZ,fV,cY,fS,fY,fQ⟩:=Ty dU dY (fun w'=>Dp c.p c.m m1 w') (fun (w':World) (h:Ex w w')=>GH w' c m1 v1 (hc.ex h)) (fun (w':World) (h:Ex w w') (pl sl:List Int) (pv sv:Value) (hp:Ak w' pv pl) (hs:Ak w' sv sl)=>NI w' c.p c.m c.ml m1 (hc.ex h).m c.n c.rows v1 (hc.ex h).g pl sl pv sv hp hs 0) hc.m;obtain⟨x1,y1,rfl,-,z1,-⟩:=hc.g.open;obtain⟨x3,y3,rfl,-,z3,-⟩:=hc.m.open;unfold maxLen at z1 z3;obtain⟨p,m,ml,n,rows⟩:=c;obtain⟨B,hB⟩:=nA w.heap.size;rw[hB]at c0 c1 c2 c3 c4;dsimp only[AX.arg,AX.obj]at *;obtain⟨SB,cN⟩:∃b,smB ⟨p,m,ml,n,rows⟩ 6=b:=⟨_,rfl⟩;rw[cN]at eJ;have eK:Hia (SB=true->Smp ⟨p,m,ml,n,rows⟩ 6):=Aa (fun h=>(S8.1 (cN.trans h)).2);obtain⟨Q,hQ⟩:=nA (CJ p m);rw[hQ]at cY;have HQ:=Aa hQ;clear hc cN hQ dU dY;go_enter Tryz.func7,Tryz.ntmps7
 go_upto_region 1 with fail
 try simp only[hB]
 clear hB;generalize w.alloc (.cells #[p,m,(x3,ml.length,y3),.int .i64 n,(x1,rows.length,y1)] 39)=w1 at *;have aA:=Aa (fun w' (h:Ex w1 w')=>(⟨h.cell c0,h.cell c1,h.cell c2,h.cell c3,h.cell c4⟩:_/\_/\_/\_/\_));have eG:∀w',Ex w1 w'->Calls Tryz.prog 13 #[] w' fun r w''=>r= .returned (.bool true)/\Ex w1 w'':=fun w' h=>(fE.o w').mono fun r w'' ⟨h1,h2⟩=>⟨h1,h.trans h2⟩;have fZ:=Aa eG;clear eG c0 c1 c2 c3 c4;obtain⟨NQ,eM⟩:=J9 (n*Q);obtain⟨j1,eZ⟩:=J9 (!SB);obtain⟨j2,eY⟩:=J9 (E1 !=0);obtain⟨l2,eU⟩:=J9 (j1||j2);obtain⟨j3,eX⟩:=J9 (decide ((4:Int)<n));obtain⟨l3,eT⟩:=J9 (l2||j3);obtain⟨j4,eW⟩:=J9 (decide ((4:Int)<Q));obtain⟨l4,eS⟩:=J9 (l3||j4);obtain⟨j5,eV⟩:=J9 (decide ((9:Int)<NQ));obtain⟨l5,eR⟩:=J9 (l4||j5);have dA:Hia (l4=false->SB=true/\E1=0/\n<=4/\Q<=4):=Aa (fun h=>by
  rw[<-eS.o,<-eT.o,<-eU.o,<-eW.o,<-eX.o,<-eY.o,<-eZ.o]at h;simp only[Bool.or_eq_false_iff,Bool.not_eq_false',bne_eq_false_iff_eq,decide_eq_false_iff_not]at h;obtain⟨⟨⟨h1,h2⟩,h3⟩,h4⟩:=h;exact⟨h1,h2,ac,ac⟩)
 have cW:Hia (l4=false->∃(pn mn N q:Nat),p=pn/\m=mn/\n=N/\pn^mn=q/\2<=q/\q<=4/\Q=q/\1<=N/\N<=4/\NQ=((N*q:Nat):Int)/\N*q<=16/\Gg pn mn ml):=Aa (fun h=>by
  obtain⟨-,k2,k3,k4⟩:=dA.o h;have ho:=cZ.o;rw[k2]at ho;obtain⟨pn,mn,N,rfl,rfl,rfl,hf,hI,eE,bT,hr,hro⟩:=IE ho;have cH:=HQ.o;rw[KZ hf]at cH;have dS:2<=pn^mn:=μ hf.p2 (Nat.le_self_pow (by have:=hf.m1;omega) pn);have dR:pn^mn<=4:=by omega
  have eD:N<=4:=ac;refine⟨pn,mn,N,_,rfl,rfl,rfl,rfl,dS,dR,cH.symm,eE,eD,?_,γo eD dR,hf⟩;rw[<-eM.o,<-cH,Int.natCast_mul])
 have HW:Hia (l4=false->IntKind.i64.wrap (n*Q)=NQ):=Aa (fun h=>by
  obtain⟨pn,mn,N,q,-,-,-,-,-,-,-,-,-,k5,k6,-⟩:=cW.o h;rw[eM.o];exact IntWalk.i64_in _ ac)
 refine BR (fun k=>([.bool true,.bool false,.bool false,.agg #[p,m,(x3,ml.length,y3),.int .i64 n,(x1,rows.length,y1)],.bool SB,.bool j1,.bool j1,.bool j1,bif j1 then undef else .agg #[p,m,(x3,ml.length,y3),.int .i64 n,(x1,rows.length,y1)],bif j1 then undef else .int .i64 E1,bif j1 then undef else .bool j2,.bool l2,.bool l2,bif l2 then undef else .pointer (some (B,3)),bif l2 then undef else .int .i64 n,bif l2 then undef else .bool j3,.bool l3,.bool l3,bif l3 then undef else .pointer (some (B,0)),bif l3 then undef else .agg #[p,m,(x3,ml.length,y3)],bif l3 then undef else .int .i64 Q,bif l3 then undef else .bool j4,.bool l4,.bool l4,bif l4 then undef else .pointer (some (B,3)),bif l4 then undef else .int .i64 n,bif l4 then undef else .pointer (some (B,0)),bif l4 then undef else .agg #[p,m,(x3,ml.length,y3)],bif l4 then undef else .int .i64 Q,bif l4 then undef else .int .i64 NQ,bif l4 then undef else .bool j5,.bool l5]:List Value).getD k undef) ah ah ah ?_ ?_
 .simp only[AH];refine⟨?_,?_,?_,?_,?_,?_,?_,?_,?_,?_,?_,?_,?_,?_,?_,?_,?_,?_,?_,?_,?_,?_,?_,?_,?_,?_,?_,?_,?_,?_,?_,?_,trivial⟩
  all_goals first|refine BB.go rfl fun a w T hx K hK=>?_|(refine BB.gd j1 ?_;rintro rfl a w T hx K hK)|(refine BB.gd l2 ?_;rintro rfl a w T hx K hK)|(refine BB.gd l3 ?_;rintro rfl a w T hx K hK)|(refine BB.gd l4 ?_;rintro rfl a w T hx K hK)
  .clear T;go_simp;refine(fE.o _).mono ?_;exact zdo
  .have e15:=T 15 _ rfl;exact zdp
  .have e16:=T 16 _ rfl;exact zdp
  .exact zaN
  .have e18:=T 18 _ rfl;clear T;go_simp;refine(eJ.o _ (HX.o.trans hx)).mono ?_;exact zdo
  .have e19:=T 19 _ rfl;have y:=eZ.o;exact zdp
  .have e17:=T 17 _ rfl;have e20:=T 20 _ rfl;exact zdp
  .have e21:=T 21 _ rfl;exact zdp
  .exact zaN
  .have e23:=T 23 _ rfl;clear T;go_simp;refine(fV.o _ (HX.o.trans hx)).mono ?_;exact zdo
  .have e24:=T 24 _ rfl;have y:=eY.o;exact zdp
  .have e22:=T 22 _ rfl;have e25:=T 25 _ rfl;obtain rfl:=eU.o;cases j1
   .exact zbb
   .exact zbb
  .have e26:=T 26 _ rfl;exact zdp
  .exact za6
  .have e28:=T 28 _ rfl;exact zcM
  .have e29:=T 29 _ rfl;have y:=eX.o;exact zdp
  .have e27:=T 27 _ rfl;have e30:=T 30 _ rfl;obtain rfl:=eT.o;cases l2
   .exact zbb
   .exact zbb
  .have e31:=T 31 _ rfl;exact zdp
  .exact za6
  .have e33:=T 33 _ rfl;exact zcM
  .have e34:=T 34 _ rfl;exact zcE
  .have e35:=T 35 _ rfl;have y:=eW.o;exact zdp
  .have e32:=T 32 _ rfl;have e36:=T 36 _ rfl;obtain rfl:=eS.o;cases l3
   .exact zbb
   .exact zbb
  .have e37:=T 37 _ rfl;exact zdp
  .exact za6
  .have e39:=T 39 _ rfl;exact zcM
  .exact za6
  .have e41:=T 41 _ rfl;exact zcM
  .have e42:=T 42 _ rfl;exact zcE
  .have e40:=T 40 _ rfl;have e43:=T 43 _ rfl;have W1:=HW.o rfl;exact zdp
  .have e44:=T 44 _ rfl;have y:=eV.o;exact zdp
  .have e38:=T 38 _ rfl;have e45:=T 45 _ rfl;obtain rfl:=eR.o;cases l4
   .exact zbb
   .exact zbb
 .intro wa dH;generalize hPK:Cg _ _ _ _=PK;rw[N8 hPK 15 47 ah];clear hPK PK;simp only[List.take_succ_cons,List.take_zero,List.drop_succ_cons,List.drop_zero,List.cons_append,List.nil_append];have cU:=Aa dH;clear dH
  cases l5 with
  | true=>
   go_wp2_with fail
   refine(fZ.o _ cU.o).mono ?_;rintro e w99⟨rfl,bB⟩;have cV:=Aa bB;clear bB;go_wp2_with fail
   go_ret;exact⟨rfl,HX.o.trans cV.o⟩
  | false=>
   obtain⟨cK,dV⟩:=or_no eR;obtain⟨dP,rfl,-,-⟩:=dA.o cK;obtain⟨pn,mn,N,q,rfl,rfl,rfl,hq,hq1,dS,rfl,eE,bT,fF,-,hf⟩:=cW.o cK;have eI:=Aa (eK.o dP);have dQ:N*pn^mn<=9:=by
    have h:=eV.o;rw[dV]at h;have:=of_decide_eq_false h;rw[hq];omega
   have dX:N*(pn^mn-1)<=64:=μ (γo bT (show pn^mn-1<=4 by omega)) ac;obtain⟨dO,cG,bS⟩:=Z2 cZ.o eI.o ac dX;obtain⟨D,hD⟩:=nA (N*(pn^mn-1));have fU:=Aa hD;rw[hD]at bS;obtain⟨LA,bV⟩:∃L,Jq pn mn ml N rows=L:=⟨_,rfl⟩;have eQ:=Aa bV;rw[bV]at cG bS;obtain⟨fT,aY,fK,fW,HF,eL,eN⟩:=To (show(Bn LA).length<=1000 from by rw[<-bV];exact XC _ (by have:=γo bT (show pn^mn-1<=4 by omega);omega) _) dO cG bS hf dQ bT;clear dO cG bS hf dQ dA cW HW eK eI cK dV dP hD bV dX fF;have A:Hia (Per wa fun v=>Ex w1 v):=fun v h=>cU.o.trans h;clear cU;obtain⟨c0,c1,c2,c3,c4⟩:=aA.o wa (at_ A);go_wp2_with fail
   refine(fS.o wa (HX.o.trans (at_ A)) aY.o.bnd.1 aY.o.bnd.2).mono ?_;rintro e w2⟨hg,dG⟩;obtain⟨lv,rfl,bH⟩:=aY.o.grO hg;rw[fU.o];rw[eQ.o]at bH;obtain⟨Ga,Gc,rfl,-⟩:=bH.open;obtain⟨GN,cR⟩:∃k,LA.length=k:=⟨_,rfl⟩;rw[cR]at bH
   try simp only[cR]
   replace A:=Pk A dG fun _ h=>bH.ex h;obtain⟨GB,cS⟩:∃B,w2.heap.size=B:=⟨_,rfl⟩;replace A:=Pk A (AF _ _) fun _ h=>(GD #[(D:Int),(Ga,GN,Gc)] 43 cS).ex h;clear hg dG bH cR c0 c1 c2 c3 c4;go_upto_region 4 with fail
   try simp only[cS]
   clear cS;generalize World.alloc _ _=w3 at *;obtain⟨c0,c1,c2,c3,c4⟩:=aA.o w3 (at_ A).2.2;go_wp2_with fail
   refine(Qa HF.o eN.o eL.o _ N w3 [] [] (.slice none 0 0) (.slice none 0 0) (fQ.o.ex (HX.o.trans (at_ A).2.2)) (Bd _) (Bd _) rfl ag (fun B hB=>by cases hB) (fun B hB=>by cases hB)).mono ?_;rintro e w4⟨v4,us,rfl,bF,dJ⟩;obtain⟨AL,bW⟩:∃l,Ca (pn^mn) N N [] []=l:=⟨_,rfl⟩;have cB:=Aa bW;rw[bW]at bF;obtain⟨ma,mc,rfl⟩:=Ad bF.own;obtain⟨LL,bJ⟩:∃k,AL.length=k:=⟨_,rfl⟩;have aH:=Aa bJ;rw[bJ]at bF
   try simp only[bJ]
   have bA:Hia (LL<=6561):=Aa (by
    rw[<-bJ,<-bW];exact μ (Jd eL.o N [] []) (μ (Nat.pow_le_pow_right ac eN.o) ac))
   have fP:=Aa bF;have hll:=bA.o;replace A:=H7 A dJ;have fO:=Aa (fun x (hx:x∈AL)=>(by rw[<-cB.o]at hx;exact Vd aY.o hx:Ef pn mn ml N x.1 x.2 0=0));have fA:=Aa (fun x (hx:x∈AL) (piv:List Nat) (a':Nat->Nat->Int) bR=>(by rw[<-cB.o]at hx;exact img_of aY.o hx bR:Au N piv.length a'=YH pn mn ml N rows x/\SU pn mn ml N rows x));have fD:=Aa (fun (h:∀x∈AL,SU pn mn ml N rows x)=>(by
    have h2:=Z5 aY.o (by rw[cB.o];exact h);rw[cB.o,eQ.o,aH.o]at h2;exact h2:EN LA*(OY [] (AL.map (YH pn mn ml N rows))).length=LL))
   obtain⟨IM,cP⟩:∃f,YH pn mn ml N rows=f:=⟨_,rfl⟩;obtain⟨IK,cQ⟩:∃f,SU pn mn ml N rows=f:=⟨_,rfl⟩;rw[cP,cQ]at fA fD;have HCD:=Aa (fun x (h:IK x)=>(by rw[<-cQ]at h;rw[<-cP];exact h.2:Bw pn mn ml N (IM x) 0));clear cP cQ bW bJ bF dJ c0 c1 c2 c3 c4;go_wp2_with fail
   go_loopw [5,63] (fun v' i' wr=>∃(i:Nat) (bP:List (Value × Value)),i<=LL/\i'= .int .i64 i/\Hia (VQ w4.heap.size pn mn N ml wr v' (OY [] ((AL.take i).map IM)) bP)/\Hia (Ex w4 wr)/\Hia (∀x∈AL.take i,IK x)) (fun _ i' _=>LL-(intOf i').toNat)
   case atStart=>exact⟨0, [],ac,rfl,Aa VQ.nil,Aa (Ex.refl _),Aa (fun x h=>by simp at h)⟩
   case round=>
    obtain⟨i,bP,hi,rfl,aU,aD,bI⟩:=hrel;obtain⟨ia,ic,rfl⟩:=Ad aU.o.own;obtain⟨MS,aV⟩:∃l,OY [] ((AL.take i).map IM)=l:=⟨_,rfl⟩;rw[aV]at aU ⊢;have eO:=Aa aV;obtain⟨LI,aW⟩:∃k,MS.length=k:=⟨_,rfl⟩;rw[aW]at aU ⊢;have aO:=Aa aW;have bY:Hia (LI<=i):=Aa (by
     have:=Uc ((AL.take i).map IM) [];rw[eO.o,aW]at this;simp at this;omega)
    have hli6:LI<=6561:=μ bY.o (μ hi bA.o);by_cases hlt:i<LL
    .obtain⟨mb,mq,u1,u2,cC,d0,d1,d2,aL,aK⟩:=fP.o.get (i:=i) dr;rw[aH.o]at cC;obtain rfl:ma=some ⟨mb,0,none⟩:=by injection cC
     have aM:=List.getElem_mem (l:=AL) (n:=i) dr;have cE:AL.take (i+1)=AL.take i ++ [AL[i]'dr]:=by rw[List.take_add_one,γ dr];rfl
     obtain⟨x,hx⟩:∃x,AL[i]'dr=x:=⟨_,rfl⟩;rw[hx]at aL aK aM cE;obtain⟨xt,xs⟩:=x;dsimp only at aL aK;replace d0:=aD.o.cell d0;replace d1:=aD.o.cell d1;replace d2:=aD.o.cell d2;replace aL:=aL.ex aD.o;replace aK:=aK.ex aD.o;obtain⟨ua,uc,rfl,-⟩:=aL.open;obtain⟨ra,rc,rfl,-⟩:=aK.open;obtain⟨UT,dZ⟩:∃k,xt.length=k:=⟨_,rfl⟩;obtain⟨RT,eB⟩:∃k,xs.length=k:=⟨_,rfl⟩;rw[dZ]at d0 aL;rw[eB]at d1 aK;obtain⟨eP,eH,aZ,fR,fB⟩:=On aM cE hlt bI.o aU.o;have j1:(0:Int)<=(i:Int):=by omega
     have j2:(i:Int)<(LL:Int):=ac;replace A:=H7 A aD.o;replace A:=Od A fun _ h=>aL.ex h;replace A:=Od A fun _ h=>aK.ex h;replace A:=Od A fun _ h=>aD.o.trans h;obtain⟨wo,dK⟩:∃x,x=wr:=⟨_,rfl⟩;rw[<-dK]at fB A d0 d1 d2 ⊢;clear dK cC aM cE hx dZ eB bI aU aD hlt aV aW;obtain⟨MB,bU⟩:∃B,wo.heap.size=B:=⟨_,rfl⟩;have HWO:=Aa bU;replace A:=Pk A (AF _ _) fun _ h=>(GD #[(ua,UT,uc),(ra,RT,rc),Ω] 26 bU).ex h;have aP:=Aa (fB.o.later (AF wo (.cells #[(ua,UT,uc),(ra,RT,rc),Ω] 26)));go_upto_region 11 with fail
     try simp only[bU]
     clear bU d0 d1 d2 j1 j2;have HS5:=Aa (AF wo (.cells #[(ua,UT,uc),(ra,RT,rc),Ω] 26)).size;generalize World.alloc _ _=w5 at *;obtain⟨c0,c1,c2,c3,c4⟩:=aA.o w5 (at_ A).2.2.2.2.2.2;obtain⟨d0,d1,d2⟩:=(at_ A).1.o3;go_wp2_with fail
     refine(fY.o w5 (HX.o.trans (at_ A).2.2.2.2.2.2) xt xs _ _ (at_ A).2.2.2.1 (at_ A).2.2.1).mono ?_;rintro e w6⟨aN,cD⟩;obtain⟨piv,a',rv,v',rfl,bR,bQ,dM,aT⟩:=app_okF (fr:=0) (show YA pn mn ml N rows xt xs ((0:Nat):Int) _ _ _ from aN) cZ.o (fO.o _ eP.o);obtain⟨dW,dT⟩:=fA.o _ eP.o piv a' bR;rw[dW]at aT;obtain⟨M,hM⟩:∃l,IM (xt,xs)=l:=⟨_,rfl⟩;rw[hM]at aT;have fN:=Aa hM;have fM:=Aa dT;obtain⟨va,vc,rfl,-⟩:=bQ.open;obtain⟨pa,pc,rfl,-⟩:=aT.msl.open;obtain⟨ML,cO⟩:∃k,M.length=k:=⟨_,rfl⟩;rw[cO]at aT
     try simp only[cO]
     have bM:=Aa (aP.o.later cD);have bO:=Aa (VK.of bQ dM aT fun B hB=>(aP.o.own.lt B hB).2);replace A:=Pk A cD fun _ h=>bQ.ex h;obtain⟨DB,cT⟩:∃B,w6.heap.size=B:=⟨_,rfl⟩;have bZ:=Aa (AF w6 (.cells #[(pn:Int),(mn:Int),(va,ml.length,vc),(N:Int),(pa,ML,pc)] 39));replace A:=Pk A bZ.o fun _ h=>(GD #[(pn:Int),(mn:Int),(va,ml.length,vc),(N:Int),(pa,ML,pc)] 39 cT).ex h;have bL:=Aa (bM.o.later bZ.o);have bN:=Aa (bO.o.later bZ.o);clear aN cD bR bQ dM aT hM cO dW dT c0 c1 c2 c3 c4 d0 d1 d2 aP bM bO bZ;go_upto_region 12 with fail
     try simp only[cT]
     clear cT;generalize World.alloc _ _=w7 at *;go_wp2_with fail
     go_loopw [11,77] (fun o' j' wt=>∃j:Nat,j<=LI/\j'= .int .i64 j/\o'= .bool (decide (M∈MS.take j))/\Hia (Ex w7 wt)) (fun _ j' _=>LI-(intOf j').toNat)
     case atStart=>exact⟨0,ac,rfl,ag,Aa (Ex.refl _)⟩
     case round=>
      obtain⟨j,hj,rfl,rfl,aC⟩:=hrel;obtain⟨wi,dL⟩:∃x,x=wr:=⟨_,rfl⟩;rw[<-dL]at aC ⊢;clear dL;by_cases hjl:j<LI
      .obtain⟨gb,gq,q1,q2,cL,k0,k1,k2,k3,k4,cJ,bG⟩:=(bL.o.later aC.o).get (i:=j) (by rw[aO.o];exact hjl);rw[aO.o]at cL;obtain rfl:ia=some ⟨gb,0,none⟩:=by injection cL
       have cI:MS[j]?=some (MS[j]'(by rw[aO.o];exact hjl)):=γ _;obtain⟨MJ,eF⟩:∃x,MS[j]'(by rw[aO.o];exact hjl)=x:=⟨_,rfl⟩;rw[eF]at cI bG;have dN:=Mp (M:=M) cI;obtain⟨qa,qc,rfl,-⟩:=cJ.open;obtain⟨dF,dE,rfl,-⟩:=bG.open;obtain⟨NJ,eC⟩:∃k,MJ.length=k:=⟨_,rfl⟩;rw[eC]at k4 bG;have aX:=Aa dN;have bX:=Aa hjl;have j1:(0:Int)<=(j:Int):=by omega
       have j2:(j:Int)<(LI:Int):=ac;have B2:=H7 A aC.o;replace B2:=Od B2 fun _ h=>cJ.ex h;replace B2:=Od B2 fun _ h=>bG.ex h;replace B2:=Od B2 fun _ h=>aC.o.trans h;have aR:=Aa (fun v (h:Ex wi v)=>bN.o.now.2.ex (aC.o.trans h));obtain⟨XB,cM⟩:∃B,wi.heap.size=B:=⟨_,rfl⟩;replace B2:=Pk B2 (AF _ _) fun _ h=>(GD #[(pn:Int),(mn:Int),(qa,ml.length,qc),(N:Int),(dF,NJ,dE)] 39 cM).ex h;have fG:=Aa (AF wi (.cells #[(pn:Int),(mn:Int),(qa,ml.length,qc),(N:Int),(dF,NJ,dE)] 39));clear cL cI eF dN cJ bG eC hjl aC;go_upto_region 18 with fail
       try simp only[cM]
       clear cM k0 k1 k2 k3 k4 j1 j2;generalize World.alloc _ _=w8 at *;obtain⟨OB,aF⟩:∃b,decide (M∈MS.take j)=b:=⟨_,rfl⟩;rw[aF]at aX ⊢
       cases OB with
       | true=>
        have aG:=Aa (at_ B2).2.1;have cX:Hia (decide (M∈MS.take (j+1))=true):=Aa (by rw[aX.o];simp);clear aX aF B2 aR;exact zbG
       | false=>
        obtain⟨k0,k1,k2,k3,k4⟩:=(at_ B2).1.o5;obtain⟨d0,d1,d2,d3,d4⟩:=(at_ B2).2.2.2.2.1.o5;go_wp2_with fail
        refine(RE w8 ⟨pn,mn,ml,N,MJ⟩ ⟨pn,mn,ml,N,M⟩ _ _ _ _ ⟨(at_ B2).2.2.2.1,(at_ B2).2.2.1⟩ ⟨(at_ B2).2.2.2.2.2.1,aR.o _ fG.o⟩).mono ?_;rintro e w9⟨rfl,dI⟩;have aG:=Aa ((at_ B2).2.1.trans dI);rw[UJ];obtain⟨SS,eA⟩:∃b,decide (MJ=M)=b:=⟨_,rfl⟩;rw[eA]at aX ⊢;have cX:Hia (decide (M∈MS.take (j+1))=SS):=Aa (by rw[aX.o];simp);clear aX aF B2 aR dI eA k0 k1 k2 k3 k4 d0 d1 d2 d3 d4;exact zbG
      .obtain rfl:LI=j:=by omega
       have aS:MS.take LI=MS:=by rw[<-aO.o];exact γf
       rw[aS];have cA:Hia (OY [] ((AL.take (i+1)).map IM)=if M∈MS then MS else MS ++ [M]):=Aa (by
        rw[eH.o,List.map_append,List.map_singleton,QO,eO.o,fN.o];by_cases h:M∈MS
        .rw[if_pos h,if_pos h]
        .rw[if_neg h,if_neg h])
       have bK:Hia (∀x∈AL.take (i+1),IK x):=Aa (fun x hx=>by
        rw[eH.o,List.mem_append,List.mem_singleton]at hx;rcases hx with hx|rfl
        .exact fR.o x hx
        .exact fM.o)
       have dB:=Aa (bL.o.later aC.o);have fX:=Aa (bN.o.later aC.o);have B2:=H7 A aC.o;obtain⟨OB,aF⟩:∃b,decide (M∈MS)=b:=⟨_,rfl⟩;rw[aF]
       cases OB with
       | true=>
        have dD:Hia (OY [] ((AL.take (i+1)).map IM)=MS):=Aa (by rw[cA.o,if_pos (of_decide_eq_true aF)]);have aG:=Aa (at_ B2).2.2.2.1;clear aF B2 cA aC aS;go_wp2_with fail
        go_roundw
        case rel=>exact⟨i+1,bP,by have:=aZ.o;omega,by go_num,by rw[dD.o];exact dB,aG,bK⟩
        case measure=>have:=aZ.o;simp[intOf];omega
       | false=>
        have dD:Hia (OY [] ((AL.take (i+1)).map IM)=MS ++ [M]):=Aa (by rw[cA.o,if_neg (of_decide_eq_false aF)]);have aG:=Aa (at_ B2).2.2.2.1;obtain⟨d0,d1,d2,d3,d4⟩:=(at_ B2).1.o5;have fL:Hia (wi.ownsRow w4.heap.size 39 5 (.slice ia LI ic) LI (Sx pn mn N bP)):=Aa (by have:=dB.o.own;rwa[aO.o]at this);have fJ:=Aa (aG.o.size);clear aF B2 cA aC aS;go_wp2_with (at_builtin;refine Al _ rfl _ _ 67 rfl w4.heap.size 39 (.agg #[Ω,Ω,(),Ω,()]) 5 72 Tryz.underlying67 Xp rfl ae _ LI _ rfl fL.o [.int .i64 (pn:Int),.int .i64 (mn:Int),.slice va ml.length vc,.int .i64 (N:Int),.slice pa ML pc] 39 _ rfl ag rfl aj (by have:=bY.o;have:=bA.o;have:=aZ.o;unfold maxLen;omega) (by have:=bY.o;have:=bA.o;have:=aZ.o;omega) fJ.o ?_)
        intro v8 w8 aN;have dC:=Aa (dB.o.app fX.o (by rw[aO.o];exact aN));have fH:=Aa (aN.ex aG.o (Nat.le_refl _));obtain⟨ka,kc,rfl⟩:=Ad aN.own;clear aN d0 d1 d2 d3 d4;go_wp2_with fail
        go_roundw
        case rel=>exact⟨i+1,_,by have:=aZ.o;omega,by go_num,by rw[dD.o];exact dC,fH,bK⟩
        case measure=>have:=aZ.o;simp[intOf];omega
    .obtain rfl:i=LL:=by omega
     have aS:AL.take i=AL:=by rw[<-aH.o];exact γf
     rw[aS]at bI aV;have fC:Hia (EN LA*LI=i):=Aa (by
      have:=fD.o bI.o;rw[aV,aW]at this;exact this)
     have B2:=H7 A aD.o;have aB:=Aa (show LI<=6561/\i<=6561 from⟨μ bY.o bA.o,bA.o⟩);obtain⟨g0,g1⟩:=(at_ B2).1.o2;have e1:IntKind.u64.wrap (LI:Int)=(LI:Int):=by rw[IntKind.wrap_u64];have:=aB.o;omega
     have e2:IntKind.u64.wrap (i:Int)=(i:Int):=by rw[IntKind.wrap_u64];have:=aB.o;omega
     clear aU bI aD aV aW aS;go_wp2_with fail
     refine(L9 wr (D:Int) LA _ (at_ B2).2.1 fT.o).mono ?_;rintro e w10⟨hs,bE⟩;obtain⟨sv,rfl,cF⟩:∃v,e= .returned (.tuple #[v,Ω])/\Hk w10 v (EN LA):=by
      rcases hs with⟨h,_⟩|⟨_,v,h1,h2⟩
      .exact absurd fW.o h
      .exact⟨v,h1,h2⟩
     obtain⟨sa,sn,sc,rfl⟩:∃a n c,sv= .slice a n c:=by
      obtain⟨n,f,h1,h2,h3⟩:=cF;obtain⟨a,c,h,_⟩:=NL.open h3;exact⟨a,n,c,h⟩
     have aQ:=Aa ((at_ B2).2.2.trans bE);have HS:=Aa cF;clear hs bE cF g0 g1 B2;go_wp2_with fail
     refine(O8 w10 LI (by have:=aB.o;omega)).mono ?_;rintro e w11⟨⟨u,rfl,hu⟩,aJ⟩;obtain⟨_,_,_,_,h5⟩:=id hu;obtain⟨oa,oc,rfl,_,_,_⟩:=h5.open;have HM:=Aa (nMul2 (HS.o.ex aJ) hu fK.o (Dt (by have:=aB.o;omega)) (by rw[fC.o];exact Dt (by have:=aB.o;omega)) 56);replace aQ:=Aa (aQ.o.trans aJ);clear hu aJ h5;go_wp2_with fail
     refine HM.o.mono ?_;rintro e w12⟨⟨u,rfl,hu⟩,bD⟩;obtain⟨_,_,_,_,h5⟩:=id hu;obtain⟨pa,pc,rfl,_,_,_⟩:=h5.open;rw[fC.o]at hu;have HP:=Aa hu;replace aQ:=Aa (aQ.o.trans bD);clear hu bD h5 HM;go_wp2_with fail
     refine(O8 w12 i (by have:=aB.o;omega)).mono ?_;rintro e w13⟨⟨u,rfl,hu⟩,aI⟩;obtain⟨_,_,_,_,h5⟩:=id hu;obtain⟨ta,tc,rfl,_,_,_⟩:=h5.open;have HC:=Aa (WP w13 _ _ _ _ (HP.o.ex aI) hu (Dt (by have:=aB.o;omega)) (Dt (by have:=aB.o;omega)));replace aQ:=Aa (aQ.o.trans aI);clear hu aI h5;go_wp2_with fail
     refine HC.o.mono ?_;rintro e w14⟨⟨z,rfl,hz⟩,bC⟩;obtain rfl:z=0:=hz.2 rfl;have fI:=Aa (aQ.o.trans bC);clear hz bC HC;go_wp2_with fail
     go_ret;exact⟨rfl,HX.o.trans fI.o⟩
end Go.Proofs.YtehieobniamagaaGreat
