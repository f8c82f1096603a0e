/- Walk of automorphism.run. -/
import Derived.Test.YtehieobniamagaaGreatZa30
namespace Go.Proofs.YtehieobniamagaaGreat
open Go.RowKit
set_option linter.all false
set_option maxRecDepth 100000
set_option maxHeartbeats 8000000
theorem Qw(c:AU)(g:BZ):(gM c g).frob=0:=by
 unfold gM Iu;split
 .rfl
 .split <;> rfl
def Wu(b0:Nat)(c:AU)(r:Ending)(w':World):Prop:=∃e0:Int,Ce c.p c.m c.ml c.n c.rows e0/\
 ((Ii c e0≠0/\r= .returned (.tuple #[.pointer none,.slice none 0 0,.slice none 0 0,.int .i64 (Ii c e0)]))∨
 (Ii c e0=0/\Ni c (Ds c.n.toNat (c.p.toNat^c.m.toNat))≠none/\r= .returned (.tuple #[.pointer none,.slice none 0 0,.slice none 0 0,.int .i64 (UI c (Ds c.n.toNat (c.p.toNat^c.m.toNat)))]))∨
 (Ii c e0=0/\Ni c (Ds c.n.toNat (c.p.toNat^c.m.toNat))=none/\∃(pn mn N b x0:Nat) (mv nv:Value),c.p=pn/\c.m=mn/\c.n=N/\1<=N/\N<=64/\N*(pn^mn-1)<=64/\r= .returned (.tuple #[.pointer (some ⟨b,0,none⟩),mv,nv,.int .i64 0])/\
   AP w' b pn mn c.ml x0/\1<=x0/\x0<pn^mn/\MP w' mv (Dj c (Ds c.n.toNat (c.p.toNat^c.m.toNat)))/\UN b0 w' nv (Ic c (Ds c.n.toNat (c.p.toNat^c.m.toNat)))))
theorem za7{P:Prop}(h:P:=by
 clear aJ aA aH aG aF x3 x4 t0 t1 t2;go_wp2_with fail
 go_roundw
 case rel=>first|exact⟨k+1,_,_,rfl,by have:=aD.o;omega,by go_num,bG.o,HN⟩|((repeat apply Exists.intro);exact⟨⟨k+1,_,_,rfl,by have:=aD.o;omega,by go_num,bG.o,HN⟩,rfl⟩)
 case measure=>have:=aD.o;simp[intOf];omega):P:=h
theorem dq{P:Prop}(h:P:=by simp[results,Tryz.results63,go_sem]):P:=h
theorem G9(w:World)(c:AU)(m1 v1:Value)(hc:c.at w m1 v1):
  Calls Tryz.prog 63 #[c.arg m1 v1] w fun r w'=>Wu w.heap.size c r w'/\Ex w w':=by
 obtain⟨c0,c1,c2,c3,c4⟩:=Dp w c m1 v1;have bR:=AE w (c.obj m1 v1);have aS:=Aa (hc.ex bR);obtain⟨x1,y1,bU,-,z1,-⟩:=hc.g.open;obtain⟨x3,y3,bT,-,z3,-⟩:=hc.m.open;unfold maxLen at z1 z3;have aP:=Aa (Jp (w.alloc (c.obj m1 v1)) c m1 v1 aS.o);have aR:=Aa (fun (w5:World) (h5:Ex (w.alloc (c.obj m1 v1)) w5) (g:BZ) (u r:Value) (hu:Aj w5 u g.tl) (hr:Aj w5 r g.sl)=>R7 w5 c c m1 m1 v1 v1 (aS.o.ex h5) (aS.o.ex h5) g.tl g.sl u r hu hr);obtain⟨B,hB⟩:=nA w.heap.size;rw[hB]at c0 c1 c2 c3 c4;have aM:=Aa bR;obtain⟨C,hC⟩:∃C:AU,C=c:=⟨_,rfl⟩;have cF:=Aa hC;have cB:=Aa (show ∀r w',Wu w.heap.size C r w'->Wu w.heap.size c r w' from fun r w' h=>by rw[<-hC];exact h);obtain⟨cp,cm,aL,cn,aX⟩:=c;unfold AU.arg at aP aR ⊢;unfold AU.obj at aM aP aS aR c0 c1 c2 c3 c4;dsimp only at aM aP aS aR c0 c1 c2 c3 c4 bU bT ⊢;rw[bU,bT]at aM aP aR c0 c1 c2 c3 c4 ⊢;rw[<-hC]at aP aR;clear hc bR hC bU bT aS;go_enter Tryz.func63,Tryz.ntmps63
 go_upto_region 1 with fail
 try simp only[hB]
 clear hB;generalize w.alloc (.cells #[.int .i64 cp,.int .i64 cm,.slice x3 aL.length y3,.int .i64 cn,.slice x1 aX.length y1] 39)=w1 at *;go_wp2_with fail
 refine aP.o.mono ?_;rintro e w2⟨⟨e0,cO,ho⟩,aB⟩;have aZ:=Aa aB;have bQ:=Aa cO;replace c0:=aB.cell c0;replace c1:=aB.cell c1;replace c2:=aB.cell c2;replace c3:=aB.cell c3;replace c4:=aB.cell c4;clear aB cO aP;obtain⟨OE,aK⟩:∃x,Ii C e0=x:=⟨_,rfl⟩;rw[aK]at ho;have bN:=Aa aK;rcases ho with⟨h0,ptr,d,rfl⟩|⟨h0,pn,mn,N,b,x0,hp,hm,hn,hN1,hN64,hD,rfl,hg,hx1,aB⟩
 .have hb:(OE !=0)=true:=by simpa using h0
  have H0:=Aa h0;clear h0 aK;go_wp2_with fail
  exact bodyPost_ret (v:= .tuple #[.pointer none,.slice none 0 0,.slice none 0 0,.int .i64 OE]) dq rfl ⟨cB.o _ _ ⟨e0,bQ.o,.inl ⟨by rw[bN.o];exact H0.o,by rw[bN.o]⟩⟩,aM.o.trans aZ.o⟩
 .subst h0;have eB:=Aa (show e0=0 from by
   unfold Ii at aK;split at aK
   .exact aK
   .omega)
  have dK:cn=(N:Int):=by have:=cF.o;rw[this]at hn;exact hn
  subst dK;obtain⟨bB,aO,HN,HG,cU⟩:=Of (show C.p=pn/\C.m=mn/\C.n=N from⟨hp,hm,hn⟩) (show Ds C.n.toNat (C.p.toNat^C.m.toNat)=Ds N (pn^mn) from by rw[hp,hm,hn];rfl) (show 1<=N/\N<=64/\N*(pn^mn-1)<=64 from⟨hN1,hN64,hD⟩) hg (show 1<=x0/\x0<pn^mn from⟨hx1,aB⟩);have cH:2<=pn^mn:=Nat.le_trans hg.sh.p2 (Nat.le_self_pow (by have:=hg.sh.m1;omega) pn);have bH:=hg.sh.q;have dB:=Aa (fun (w5:World) (h5:Ex w2 w5)=>BN w5 (HG.o.ex h5));have bP:=Aa (fun (w5:World)=>KY w5 N (pn^mn) hN64 ac bH);have cE:=Aa (show ∀(w5:World) (h5:Ex w1 w5) (g:BZ) (u r:Value),g∈Ds N (pn^mn)->Aj w5 u g.tl->Aj w5 r g.sl->Calls Tryz.prog 122 #[.agg #[.int .i64 cp,.int .i64 cm,.slice x3 aL.length y3,.int .i64 N,.slice x1 aX.length y1],.agg #[.int .i64 cp,.int .i64 cm,.slice x3 aL.length y3,.int .i64 N,.slice x1 aX.length y1],.agg #[u,r]] w5 fun r' w'=>Zm w5.heap.size (gM C g) (gE C g) r' w'/\Ex w5 w' from fun w5 h5 g u r dJ hu hr=>by
   refine(aR.o w5 h5 g u r hu hr).mono ?_;rintro r' w'⟨⟨e1,e2,k1,k2,k3⟩,k4⟩;refine⟨?_,k4⟩;have hz:=eB.o;have aU:Ce cp cm aL N aX 0:=by have h1:=bQ.o;rw[cF.o,hz]at h1;exact h1
   obtain rfl:e1=0:=Cl k1 aU;obtain rfl:e2=0:=Cl (k2 rfl) aU;have cI:=bB.o.1;have cJ:=bB.o.2.1;rw[cF.o]at cI cJ;have Bd:EY 0 0 (Cq cp cm aL cp cm aL) N N g.tl g.sl (cp.toNat^cm.toNat)=0:=Pr (N:=N) rfl (q:=cp.toNat^cm.toNat) (by
    have h1:cp=pn:=cI;have h2:cm=mn:=cJ;rw[h1,h2];exact IS dJ)
   rw[Bd]at k3;exact k3)
  obtain⟨q,hq⟩:=nA (pn^mn);have HQ:=Aa hq;rw[hq]at dB bP cE aO cH bH;have dV:=Aa bH;clear hp hm hn hN1 hN64 hD hg hx1 aB hq cH bH aR aK;obtain⟨GS,bY⟩:∃g,Ds N q=g:=⟨_,rfl⟩;rw[bY]at cE aO bP;have dY:=Aa bY;obtain⟨LG,cT⟩:∃n,GS.length=n:=⟨_,rfl⟩;have aQ:=Aa cT;have dF:=Aa (fun (w5:World) (h5:Ex w2 w5)=>h5.cell c3);have eC:=Aa (fun (w5:World) (h5:Ex w2 w5)=>(⟨h5.cell c0,h5.cell c1,h5.cell c2,h5.cell c3,h5.cell c4⟩:w5.cell? ⟨B,0,none⟩=some (.int .i64 cp)/\w5.cell? ⟨B,1,none⟩=some (.int .i64 cm)/\w5.cell? ⟨B,2,none⟩=some (.slice x3 aL.length y3)/\w5.cell? ⟨B,3,none⟩=some (.int .i64 N)/\w5.cell? ⟨B,4,none⟩=some (.slice x1 aX.length y1)));clear bY cT c0 c1 c2 c4;go_wp2_with fail
  clear c3;have G0:Ex w2 w2.drew:=(Ex.refl w2).drew
  go_cut [23,24,25] from 19 to 25 (fun gv lv zv wx=>∃ga gc,gv= .slice ga LG gc/\lv= .int .i64 LG/\zv= .int .i64 0/\Hia (UN w2.heap.size wx gv GS)/\Hia (Ex w2 wx))
  case first=>
   go_region_held3 (fun w'=>w'.cell? ⟨B,3,none⟩=some (.int .i64 N))
    (first|with_reducible exact dF.o _ X6|with_reducible exact dF.o _ G0)
    (first|(go_at_call 54;(with_reducible refine(dB.o _ G0).mono ?_);rintro e w5⟨rfl,rfl⟩)|(go_at_call 121;(with_reducible refine(bP.o _).mono ?_);rintro e w6⟨v6,cs6,rfl,bJ⟩;have X6:=G0.trans bJ.ex;have dS:=Aa (bJ.gsl.mono (show w2.heap.size<=w2.drew.heap.size from Nat.le_refl _));obtain⟨dM,dL,cG⟩:=Ab bJ.own;rw[aQ.o]at cG;subst cG;clear bJ))
   all_goals
    go_wp2_with fail
    go_meet
    exact⟨dM,dL,rfl,rfl,rfl,dS,Aa X6⟩
  case rest=>
   obtain⟨ga,gc,rfl,rfl,rfl,bI,bS⟩:=hcut;obtain⟨w3,h3⟩:∃x,x=wc:=⟨_,rfl⟩;rw[<-h3]at bI bS ⊢;have aY:=Aa bS.o;have HGL:=Aa bI.o;obtain⟨dN,gc',cN,g1,g2,g3⟩:=bI.o.open;have aT:dN=ga:=by injection cN with e1 e2 e3;exact e1.symm
   have eA:=Aa (show 0<LG->∃b o,ga=some ⟨b,o,none⟩/\∀(i:Nat) (l:BZ),GS[i]?=some l->∃u r,w3.cell? ⟨b,o+5*i,none⟩=some (.int .i64 l.i)/\w3.cell? ⟨b,o+(5*i+1),none⟩=some (.int .i64 l.j)/\w3.cell? ⟨b,o+(5*i+2),none⟩=some (.int .i64 l.a)/\w3.cell? ⟨b,o+(5*i+3),none⟩=some u/\w3.cell? ⟨b,o+(5*i+4),none⟩=some r/\Aj w3 u l.tl/\Aj w3 r l.sl/\(∀X,u.ownBlock=some X->w2.heap.size<=X)/\∀X,r.ownBlock=some X->w2.heap.size<=X from fun h=>by
    rw[<-aT];exact g3 (by rw[aQ.o];exact h))
   have dA:=Aa (Oq.nil w2.heap.size w3);have dC:=Aa (show LG<=1048576 from by rw[<-aQ.o,<-dY.o];have:=Mk N q HN.o.2.1 dV.o N;have:=HN.o.2.1;unfold Ds;omega);clear bI bS g1 g2 g3 cN aT h3 G0 bP;go_wp2_with fail
   go_loopw [2,3,4,25] (fun pv mv nv k' wr=>∃(k:Nat) (cs ds:List (Value × Value)),pv= .pointer (some ⟨b,0,none⟩)/\k<=LG/\k'= .int .i64 k/\Ni C (GS.take k)=none/\Hia (Oq w2.heap.size w3 wr mv nv (Dj C (GS.take k)) cs (Ic C (GS.take k)) ds)) (fun _ _ _ k' _=>LG-(intOf k').toNat)
   case atStart=>exact⟨0, [], [],rfl,ac,rfl,rfl,dA⟩
   case round=>
    clear dA;obtain⟨k,cs,ds,rfl,hk,rfl,aW,hr⟩:=hrel;obtain⟨ma,mc,rfl⟩:=Ab hr.o.mown;obtain⟨na,nc,rfl⟩:=Ab hr.o.nown;by_cases hkl:k<LG
    .obtain⟨gb,go,rfl,cK⟩:=eA.o ac;obtain⟨g,hg⟩:∃g,GS[k]?=some g:=⟨_,List.getElem?_eq_getElem (by rw[aQ.o];exact hkl)⟩;obtain⟨u,r,d0,d1,d2,d3,d4,hu,bW,cP,cQ⟩:=cK k g hg;have dG:=Aa cP;have dH:=Aa cQ;clear cP cQ;obtain⟨ua,uc,rfl,-,-,-⟩:=hu.open;obtain⟨ra,rc,rfl,-,-,-⟩:=bW.open;rw[BV]at d3;rw[Cf]at d4;have HU:=Aa hu;have cA:=Aa bW;rw[BV]at HU dG;rw[Cf]at cA dH;replace d0:=hr.o.ex.cell d0;replace d1:=hr.o.ex.cell d1;replace d2:=hr.o.ex.cell d2;replace d3:=hr.o.ex.cell d3;replace d4:=hr.o.ex.cell d4;obtain⟨HR,bE,bF,dZ⟩:=Eq hr.o hg aW (List.mem_of_getElem? hg);rw[show go+5*k=go+k*5 from ac]at d0;rw[show go+(5*k+1)=go+k*5+1 from ac]at d1;rw[show go+(5*k+2)=go+k*5+2 from ac]at d2;rw[show go+(5*k+3)=go+k*5+3 from ac]at d3;rw[show go+(5*k+4)=go+k*5+4 from ac]at d4;have i1:(0:Int)<=(k:Int):=by omega
     have i2:(k:Int)<(LG:Int):=ac;have aD:=Aa hkl;clear hr hg aW hu bW cK hkl;go_upto_region 7 with fail
     obtain⟨XB,aC⟩:∃x,wr.heap.size=x:=⟨_,rfl⟩;have x3:(wr.alloc (.cells #[.int .i64 g.i,.int .i64 g.j,.int .i64 g.a,.slice ua (g.i+1) uc,.slice ra (g.i+1) rc] 129)).cell? ⟨XB,3,none⟩=some (.slice ua (g.i+1) uc):=dd;have x4:(wr.alloc (.cells #[.int .i64 g.i,.int .i64 g.j,.int .i64 g.a,.slice ua (g.i+1) uc,.slice ra (g.i+1) rc] 129)).cell? ⟨XB,4,none⟩=some (.slice ra (g.i+1) rc):=dd;have aH:(wr.alloc (.cells #[.int .i64 g.i,.int .i64 g.j,.int .i64 g.a,.slice ua (g.i+1) uc,.slice ra (g.i+1) rc] 129)).cell? ⟨XB,0,none⟩=some (.int .i64 g.i):=dd;have aG:(wr.alloc (.cells #[.int .i64 g.i,.int .i64 g.j,.int .i64 g.a,.slice ua (g.i+1) uc,.slice ra (g.i+1) rc] 129)).cell? ⟨XB,1,none⟩=some (.int .i64 g.j):=dd;have aF:(wr.alloc (.cells #[.int .i64 g.i,.int .i64 g.j,.int .i64 g.a,.slice ua (g.i+1) uc,.slice ra (g.i+1) rc] 129)).cell? ⟨XB,2,none⟩=some (.int .i64 g.a):=dd;have aN:=Aa (show Ex wr (wr.alloc (.cells #[.int .i64 g.i,.int .i64 g.j,.int .i64 g.a,.slice ua (g.i+1) uc,.slice ra (g.i+1) rc] 129)) from(Ex.refl wr).alloc _)
     try simp only[aC]
     have HXB:=Aa aC;clear aC d0 d1 d2 d3 d4 i1 i2;generalize wr.alloc (.cells #[.int .i64 g.i,.int .i64 g.j,.int .i64 g.a,.slice ua (g.i+1) uc,.slice ra (g.i+1) rc] 129)=w5 at *;obtain⟨c0,c1,c2,c3,c4⟩:=eC.o w5 (aY.o.trans (HR.o.ex.trans aN.o));have cD:=Aa (cE.o w5 (aZ.o.trans (aY.o.trans (HR.o.ex.trans aN.o))) g _ _ dZ.o (HU.o.ex (HR.o.ex.trans aN.o)) (cA.o.ex (HR.o.ex.trans aN.o)));obtain⟨EE,bZ⟩:∃x,gE C g=x:=⟨_,rfl⟩;rw[bZ]at cD;have aE:=Aa bZ;go_wp2_with fail
     refine cD.o.mono ?_;rintro e w6⟨⟨u6,r6,rfl,bV,bX,cM,cL⟩,aI⟩;rw[Qw];obtain⟨cW,cZ,dE,dD⟩:=Eq bV bX cM cL;obtain⟨a6,b6,rfl,-,-,-⟩:=bV.open;obtain⟨a7,b7,rfl,-,-,-⟩:=bX.open;obtain⟨LP,cS⟩:∃x,(gM C g).perm.length=x:=⟨_,rfl⟩;obtain⟨LS,cR⟩:∃x,(gM C g).scale.length=x:=⟨_,rfl⟩;rw[cS]at cW dE ⊢;rw[cR]at cZ dD ⊢;have dO:=Aa (aN.o.trans aI);replace aH:=aI.cell aH;replace aG:=aI.cell aG;replace aF:=aI.cell aF;replace x3:=aI.cell x3;replace x4:=aI.cell x4;obtain⟨t0,t1,t2,et⟩:=Ay w6 (.slice a6 LP b6) (.slice a7 LS b7) 0;obtain⟨TB,bK⟩:∃x,w6.heap.size=x:=⟨_,rfl⟩;rw[bK]at t0 t1 t2;have cV:=Aa (dO.o.trans et);replace aH:=et.cell aH;replace aG:=et.cell aG;replace aF:=et.cell aF;replace x3:=et.cell x3;replace x4:=et.cell x4;have dP:=Aa (cW.o.ex et);have dU:=Aa (cZ.o.ex et);have HTB:=Aa bK;clear bV bX cM cL cS cR aI et cD bZ c0 c1 c2 c3 c4;go_upto_region 8 with fail
     try simp only[bK]
     clear bK;generalize w6.alloc (.cells #[.slice a6 LP b6,.slice a7 LS b7,.int .i64 0] 26)=w7 at *;obtain⟨LM,bM⟩:∃x,(Dj C (GS.take k)).length=x:=⟨_,rfl⟩;obtain⟨LN,bL⟩:∃x,(Ic C (GS.take k)).length=x:=⟨_,rfl⟩;have bO:=Aa (show LM<=1048576/\LN<=1048576 from by
      have hkk:=aD.o;have hl:=dC.o;constructor
      .rw[<-bM];unfold Dj;rw[List.length_map];exact Nat.le_trans (List.length_filter_le _ _) cd
      .rw[<-bL];unfold Ic;exact Nat.le_trans (List.length_filter_le _ _) cd)
     rw[bM,bL]at HR ⊢;have bD:=Aa bM;have bC:=Aa bL;have bA:=Aa (HR.o.later cV.o);have hk64:k<=1048576:=by have:=aD.o;have:=dC.o;omega
     have dI:=Aa (show(∀c:Value,(∀X,c.ownBlock=some X->w5.heap.size<=X)->AJ c (.slice ma LM mc)/\AJ c (.slice na LN nc)) from fun c hc=>
      ⟨Fv hc fun X e=>Nat.lt_of_lt_of_le (HR.o.mown.lt X e).2 aN.o.size,Fv hc fun X e=>Nat.lt_of_lt_of_le (HR.o.nown.lt X e).2 aN.o.size⟩)
     have cX:=Aa bA.o.ex.size;clear bM bL;by_cases h0:EE=0
     .subst h0;have HM:=Aa (Vf bE.o aE.o);have bG:=Aa (SL bE.o bF.o (.inl aE.o));have cC:=Aa (show w7.ownsRow w3.heap.size 26 3 (.slice ma LM mc) LM (RE (Dj C (GS.take k)) cs) from by have:=bA.o.mown;rwa[bD.o]at this);go_wp2_with (at_builtin;refine Ak _ rfl _ _ 68 rfl w3.heap.size 26 (.agg #[.slice none 0 0,.slice none 0 0,.int .i64 0]) 3 56 Tryz.underlying68 TG rfl ae _ LM _ rfl cC.o [.slice a6 LP b6,.slice a7 LS b7,.int .i64 0] 26 _ rfl ag rfl aj (by have:=bO.o.1;unfold maxLen;omega) (by have:=bO.o.1;omega) cX.o ?_)
      intro v8 w8 aJ;have aA:AZ w7 w8 w3.heap.size 26 3 (.slice ma LM mc) v8 (Dj C (GS.take k)).length (RE (Dj C (GS.take k)) cs) [.slice a6 LP b6,.slice a7 LS b7,.int .i64 (gM C g).frob]:=by rw[Qw,bD.o];exact aJ
      have HN:=Aa (bA.o.appM dP.o dU.o (dI.o _ dE.o) (dI.o _ dD.o) aA);rw[<-HM.o.1,<-HM.o.2]at HN;obtain⟨ma8,mc8,rfl⟩:=Ab aJ.own;exact za7
     .by_cases h11:EE=11
      .subst h11;have HM:=Aa (Ve bE.o aE.o);have bG:=Aa (SL bE.o bF.o (.inr aE.o));have cC:=Aa (show w7.ownsRow w3.heap.size 129 5 (.slice na LN nc) LN (Eo (Ic C (GS.take k)) ds) from by have:=bA.o.nown;rwa[bC.o]at this);clear h0;go_wp2_with (at_builtin;refine Ak _ rfl _ _ 109 rfl w3.heap.size 129 (.agg #[.int .i64 0,.int .i64 0,.int .i64 0,.slice none 0 0,.slice none 0 0]) 5 72 Tryz.underlying109 NM rfl ae _ LN _ rfl cC.o [.int .i64 (g.i:Int),.int .i64 (g.j:Int),.int .i64 (g.a:Int),.slice ua (g.i+1) uc,.slice ra (g.i+1) rc] 129 _ rfl ag rfl aj (by have:=bO.o.2;unfold maxLen;omega) (by have:=bO.o.2;omega) cX.o ?_)
       intro v8 w8 aJ;have aA:AZ w7 w8 w3.heap.size 129 5 (.slice na LN nc) v8 (Ic C (GS.take k)).length (Eo (Ic C (GS.take k)) ds) [.int .i64 (g.i:Int),.int .i64 (g.j:Int),.int .i64 (g.a:Int),.slice ua (g.i+1) uc,.slice ra (g.i+1) rc]:=by rw[bC.o];exact aJ
       have HN:=Aa (bA.o.appN HU.o cA.o dG.o dH.o aA);rw[<-HM.o.1,<-HM.o.2]at HN;obtain⟨na8,nc8,rfl⟩:=Ab aJ.own;exact za7
      .have k0:(EE==0)=false:=by simpa using h0
       have k11:(EE==11)=false:=by simpa using h11
       have cY:=Aa (Vg bE.o bF.o (by rw[aE.o];exact h0) (by rw[aE.o];exact h11));have dT:=Aa (show Ni C GS≠none from fun hn=>by
        have h1:=cY.o;unfold UI at h1;rw[hn,aE.o]at h1;exact h0 h1.symm)
       clear h0 h11 aH aG aF x3 x4 t0 t1 t2;go_wp2_with fail
       exact bodyPost_ret (v:= .tuple #[.pointer none,.slice none 0 0,.slice none 0 0,.int .i64 EE]) dq rfl ⟨cB.o _ _ ⟨e0,bQ.o,.inr (.inl ⟨bN.o,by rw[aO.o];exact dT.o,by rw[aO.o,cY.o,aE.o]⟩)⟩,aM.o.trans (aZ.o.trans (aY.o.trans (HR.o.ex.trans cV.o)))⟩
    .obtain rfl:LG=k:=by omega
     have aV:Ni C GS=none:=by rw[<-aQ.o,List.take_length]at aW;exact aW
     obtain⟨HR,dX,dW,dR,dQ,bF⟩:=To hr.o hr.o.msl hr.o.nsl (show Dj C GS=Dj C (GS.take LG) from by rw[<-aQ.o,List.take_length]) (show Ic C GS=Ic C (GS.take LG) from by rw[<-aQ.o,List.take_length]) aV;clear hr aW aV;go_wp2_with fail
     exact bodyPost_ret (v:= .tuple #[.pointer (some ⟨b,0,none⟩),.slice ma (Dj C (GS.take LG)).length mc,.slice na (Ic C (GS.take LG)).length nc,.int .i64 0]) dq rfl ⟨cB.o _ _ ⟨e0,bQ.o,.inr (.inr ⟨bN.o,by rw[aO.o];exact bF.o,pn,mn,N,b,x0,_,_,bB.o.1,bB.o.2.1,bB.o.2.2,HN.o.1,HN.o.2.1,HN.o.2.2,rfl,HG.o.ex (aY.o.trans HR.o.ex),cU.o.1,cU.o.2,by rw[aO.o,dR.o];exact dX.o,by rw[aO.o,dQ.o];exact dW.o.mono (Nat.le_trans aM.o.size aZ.o.size)⟩)⟩,aM.o.trans (aZ.o.trans (aY.o.trans HR.o.ex))⟩
structure Z1 where
 deg:Int
 lev:List Lv
noncomputable def CU(n:Int)(rows:List (List Int)):Z1 × Int:=if DA n rows≠0 then(⟨0, []⟩,DA n rows) else(⟨n,Cd n.toNat (rows.map CE) n.toNat⟩,0)
def WC(n:Int)(rows:List (List Int))(r:Ending)(w':World):Prop:=∃v,r= .returned (.tuple #[.agg #[.int .i64 (CU n rows).1.deg,v],.int .i64 (CU n rows).2])/\D6 w' v (CU n rows).1.lev
theorem IX{n:Int}{rows:List (List Int)}{d:Int}{L:List Lv}{e:Int}{v:Value}{w':World}(h:CU n rows=(⟨d,L⟩,e))(hv:D6 w' v L):WC n rows (.returned (.tuple #[.agg #[.int .i64 d,v],.int .i64 e])) w':=⟨v,by rw[h],by rw[h];exact hv⟩
theorem zcm{P:Prop}(h:P:=by
 apply Classical.byContradiction;intro hn;have:n=0:=by omega
 subst this;omega):P:=h
theorem Qd{w:World}{q:Nat}{z:Int}(h0:w.cell? ⟨q,0,none⟩=some (.int .i64 z))(h1:w.cell? ⟨q,1,none⟩=some (.slice none 0 0))(h2:∀j,2<=j->w.cell? ⟨q,j,none⟩=none){v:Value}{n size:Nat}{xs:List Value}(h:Sl w v n size xs)(hl:2<=xs.length)(hx:xs[0]?≠some (.int .i64 z)∨xs[1]?≠some (.slice none 0 0)):v.ownBlock≠some q:=by
 intro e;obtain⟨k1,a,cap,rfl,_,_,k5⟩:=h;have hn:0<n:=by
  exact zcm
 obtain⟨b,o,rfl,k6⟩:=k5 hn;injection e with e;have e:b=q:=e;subst e;have x0:=k6 0 _ (List.getElem?_eq_getElem ac);have x1:=k6 1 _ (List.getElem?_eq_getElem ac);have ho:o=0:=by
  apply Classical.byContradiction;intro ho;have:=h2 (o+1) ac;rw[x1]at this;cases this
 subst ho;rw[h0]at x0;rw[h1]at x1;injection x0 with x0;injection x1 with x1;rcases hx with hx|hx
 .exact hx (by rw[List.getElem?_eq_getElem ac,<-x0])
 .exact hx (by rw[List.getElem?_eq_getElem ac,<-x1])
theorem Sl.set2{w:World}{v:Value}{n size:Nat}{xs:List Value}(h:Sl w v n size xs){q:Nat}(hq:v.ownBlock≠some q)(u u':Value):Sl ((w.setCell ⟨q,0,none⟩ u).setCell ⟨q,1,none⟩ u') v n size xs:=by
 obtain⟨k1,a,cap,rfl,k3,k4,k5⟩:=h;refine⟨k1,a,cap,rfl,k3,k4,fun hn=>?_⟩;obtain⟨b,o,rfl,k6⟩:=k5 hn;have hb:q≠b:=fun e=>hq (by rw[e];rfl);refine⟨b,o,rfl,fun j x hx=>?_⟩;rw[World.cell?_setCell_other _ _ _ _ (by intro e;injection e with e;exact hb e),World.cell?_setCell_other _ _ _ _ (by intro e;injection e with e;exact hb e)];exact k6 j x hx
theorem D6.set2{w:World}{q:Nat}{z:Int}(h0:w.cell? ⟨q,0,none⟩=some (.int .i64 z))(h1:w.cell? ⟨q,1,none⟩=some (.slice none 0 0))(h2:∀j,2<=j->w.cell? ⟨q,j,none⟩=none){v:Value}{L:List Lv}(h:D6 w v L)
  (hL:∀l∈L,2<=l.orb.length/\2<=l.reps.length/\∀r∈l.reps,2<=r.length) (u u':Value):D6 ((w.setCell ⟨q,0,none⟩ u).setCell ⟨q,1,none⟩ u') v L:=by
 obtain⟨os,k1,k2,k3⟩:=h;have aA:∀ {y:Value} {l:List Int},Aj w y l->2<=l.length->Aj ((w.setCell ⟨q,0,none⟩ u).setCell ⟨q,1,none⟩ u') y l:=fun {y l} hy hl=>
  Sl.set2 hy (Qd h0 h1 h2 hy (by rw[AS];exact hl) (.inr (by
   unfold Al;rw[List.getElem?_map]
   cases l[1]? with
   | none=>simp
   | some x=>simp))) u u'
 refine⟨os,k1,?_,fun i l o a c=>?_⟩
 .by_cases hn:0<L.length
  .refine Sl.set2 k2 (fun e=>?_) u u';obtain⟨m1,a,cap,rfl,_,_,m5⟩:=k2;obtain⟨b,o,rfl,m6⟩:=m5 hn;injection e with e;have e:b=q:=e;subst e;have hl3:=L9 L os k1;have:=m6 2 _ (List.getElem?_eq_getElem ac);rw[h2 (o+2) ac]at this;cases this
  .obtain⟨m1,a,cap,rfl,m3,m4,m5⟩:=k2;exact⟨m1,a,cap,rfl,m3,m4,fun h=>absurd h hn⟩
 .obtain⟨g1,vals,g2,g3⟩:=k3 i l o a c;obtain⟨b1,b2,b3⟩:=hL l (List.mem_of_getElem? a);refine⟨aA g1 b1,vals,?_,fun j r y hr hy=>aA (g3 j r y hr hy) (b3 r (List.mem_of_getElem? hr))⟩;have hvl:vals.length=l.reps.length:=by have:=g2.1;omega
  refine Sl.set2 g2 (Qd h0 h1 h2 g2 ac (.inl fun e=>?_)) u u';have aB:l.reps[0]?=some (l.reps[0]'ac):=List.getElem?_eq_getElem _;obtain⟨_,_,e2,_⟩:=(g3 0 _ _ aB e).open;cases e2
theorem Oc{n:Nat}{S:List (Nat->Nat)}{m:Nat}{l:Lv}(h:l∈Cd n S m):2<=l.orb.length/\2<=l.reps.length/\∀r∈l.reps,2<=r.length:=by
 unfold Cd at h;obtain⟨h1,h2⟩:=List.mem_filter.1 h;obtain⟨b,_,rfl⟩:=List.mem_map.1 h1;have h2:1<(CZ (Be S b n)).length:=of_decide_eq_true h2;rw[Cc]at h2;have h3:=Fk S b n;refine⟨by show 2<=(CZ (Be S b n)).length;rw[Cc];omega,by show 2<=(Dk n S b n).length;unfold Dk;rw[List.length_map];omega,fun r hr=>?_⟩;have hr:r∈Dk n S b n:=hr;unfold Dk at hr;obtain⟨x,_,rfl⟩:=List.mem_map.1 hr;rw[CM];omega
theorem VA(n:Nat):OJ n (L6 n) 0:=fun c _ _=>by
 have:=Vz n (L6 n) c;show 0+_<=_
 omega
theorem Ll(w:World)(n:Int)(rows:List (List Int))(v:Value)(hv:BT w v rows)(hrl:rows.length<=1000):
  Calls Tryz.prog 123 #[.int .i64 n,v] w fun r w'=>WC n rows r w'/\Ex w w':=by
 have ea:Ex w (w.alloc (.cells #[.int .i64 0,.slice none 0 0] 43)):=(Ex.refl _).alloc _;have q0:(w.alloc (.cells #[.int .i64 0,.slice none 0 0] 43)).cell? ⟨w.heap.size,0,none⟩=some (.int .i64 0):=ag;have q1:(w.alloc (.cells #[.int .i64 0,.slice none 0 0] 43)).cell? ⟨w.heap.size,1,none⟩=some (.slice none 0 0):=ag;have q2:∀j,2<=j->(w.alloc (.cells #[.int .i64 0,.slice none 0 0] 43)).cell? ⟨w.heap.size,j,none⟩=none:=fun j hj=>by
  obtain⟨i,rfl⟩:∃i,j=i+2:=⟨j-2,ac⟩;simp
 have aE:(w.alloc (.cells #[.int .i64 0,.slice none 0 0] 43)).frozen? ⟨w.heap.size,0,none⟩=false:=ag;have aD:(w.alloc (.cells #[.int .i64 0,.slice none 0 0] 43)).frozen? ⟨w.heap.size,1,none⟩=false:=ag;have HV:=Aa hv;have HG:=Aa (fun w1 (h:Ex w w1)=>Fq w1 n rows v (hv.ex h));obtain⟨a,cap,rfl,_,s2,_⟩:=hv.open;unfold maxLen at s2;obtain⟨e,he⟩:=nA (DA n rows);rw[he]at HG;clear hv;go_enter Tryz.func123,Tryz.ntmps123
 go_wp2_with fail
 obtain⟨q,hq⟩:=nA w.heap.size;rw[hq]at q0 q1 aE aD q2
 try simp only[hq]
 have HQ:=Aa hq;have aP:=Aa ea;clear hq;generalize w.alloc (.cells #[.int .i64 0,.slice none 0 0] 43)=wR at *;refine(HG.o wR ea).mono ?_;rintro e' w1⟨rfl,aC⟩;have aO:=Aa aC;have aB:=World.block_lt_of_cell? _ _ q0;have Q2:=Aa (show ∀j,2<=j->w1.cell? ⟨q,j,none⟩=none from fun j hj=>(Below.cell aC (show(⟨q,j,none⟩:Addr).block<wR.heap.size from aB)).trans (q2 j hj));have aX:=aC.frz q0 aE;have aW:=aC.frz q1 aD;have q0:=aC.cell q0;have q1:=aC.cell q1;clear aC aE aD ea HG q2 aB;by_cases h0:e=0
 .subst h0;obtain⟨N,rfl,aN,aS,S,aM,hS⟩:=IT he;have HP:=Aa (show CU N rows=(⟨N,Cd N S N⟩,0) from by unfold CU;rw[he,if_neg ae,aM,IF hS];rfl);have HS:=Aa hS;have bQ:=Aa aM;have bC:S.length=rows.length:=by rw[aM];simp
  obtain⟨bG,bT,Q0,Q1,bM,bL⟩:=To bC (L5 w1 N aN aS) q0 q1 aX aW;clear he hS aM bC q0 q1 aX aW;go_wp2_with (go_at_call 173;refine bT.o.mono ?_;rintro e w2⟨tb,rb,gb,rr,mb,rfl,aA,aZ⟩;have bF:=Aa aA;have bE:=Aa aZ;clear aA aZ)
  have bI:=Aa (GW.start (n:=N) (S:=S));have bH:=Aa (VA N)
  go_loopw [21] (fun k' wr=>∃(k:Nat) (aH:List Nat) (tc:Tw),k<=rows.length/\k'= .int .i64 k/\Hia (RZ wr w1.heap.size N tb rb gb rr aH tc)/\Hia (GW N S tc k)/\Hia (OJ N tc 0)/\Hia (Ex w1 wr)) (fun k' _=>rows.length-(intOf k').toNat)
  case atStart=>exact⟨0,mb,L6 N,ac,rfl,bF,bI,bH,bE⟩
  case round=>
   clear bF bI bH bE;obtain⟨k,aH,tc,hk,rfl,aA,aG,aR,hx⟩:=hrel;by_cases hkn:k<rows.length
   .obtain⟨s,hs⟩:∃s,S[k]?=some s:=⟨_,List.getElem?_eq_getElem (by rw[bG.o];exact hkn)⟩;have bB:rows[k]?=some (li N s):=by rw[bQ.o,List.getElem?_map,hs];rfl
    have bA:=HS.o s (List.mem_of_getElem? hs);obtain⟨_,_,e1,_,_,h3⟩:=HV.o.open;injection e1 with e1 e2 e3;subst e1 e3;obtain⟨zb,zo,rfl,aY⟩:=h3 ac;obtain⟨u,d1,hu⟩:=aY k _ bB;have bJ:=Aa (aP.o.trans (aO.o.trans hx.o));have d1:=bJ.o.cell d1;obtain⟨ua,uc,rfl,_,_,_⟩:=Ec hu;obtain⟨pb,po,rfl,hpb,_⟩:=Em hu ac;have bS:=Aa (B3.of (mb:=aH) (hu.ex bJ.o) aN fun B eB hm=>by
     injection eB with eB;have eB:pb=B:=eB;subst eB;obtain⟨gv,V,hM⟩:=aA.o;have h5:=(hM.lo pb hm).1;have h6:=(aP.o.trans aO.o).size;omega)
    have i1:(0:Int)<=(k:Int):=ac;have i2:(k:Int)<(rows.length:Int):=ac;obtain⟨bX,bV,cA,bR⟩:=Eq (VP (base:=w1.heap.size) (tb:=tb) (rb:=rb) (gb:=gb) (rr:=rr) aN aS (Qg N tc 0) wr aH tc s _ 0 (fun _=>Nat.le_refl _) (Nat.zero_le _) aA.o aG.o.good (fun c _ hc=>aG.o.comp c hc) bS.o bA (fun i hi=>ac) hx.o.size aR.o) (show ∀B∈aH,w1.heap.size<=B from by obtain⟨gv,V,hM⟩:=aA.o;exact fun B hB=>(hM.lo B hB).1) aG.o hs;clear hs bB bA h3 aY hu aA aG aR;go_wp2_with (go_at_call 174;refine bX.o.mono ?_;rintro e w3⟨⟨zz,rfl⟩,mb3,t3,aI,aK,aJ,aL⟩;have aT:=Aa aI;have aU:=Aa aK;have bP:=Aa (aJ.ex hx.o bV.o);have aV:=Aa aL;clear aI aK aJ aL)
    have cB:=Aa (cA.o.step HS.o bR.o aU.o);go_roundw
    case rel=>exact⟨k+1,mb3,t3,ac,by go_num,aT,cB,aV,bP⟩
    case measure=>simp[intOf];omega
   .obtain rfl:k=rows.length:=by omega
    have bZ:=Aa (RV wr aA.o aG.o (by rw[bG.o];exact Nat.le_refl _) HS.o aN aS);have q0:=hx.o.cell Q0.o;have q1:=hx.o.cell Q1.o;have aE:=hx.o.frz Q0.o bM.o;have aD:=hx.o.frz Q1.o bL.o;have bN:=Aa hx.o;clear aA aG aR hx;go_wp2_with (go_at_call 175;refine bZ.o.mono ?_;rintro e w4⟨lv,rfl,aQ,aF⟩;obtain⟨la,lc,bK,_,_,_⟩:=aQ.open;subst bK;have aE:=aF.frz q0 aE;have aD:=aF.frz q1 aD;have q0:=aF.cell q0;have q1:=aF.cell q1;have bU:=Aa aQ;have bO:=Aa aF;clear aQ aF)
    have bD:=Aa (bN.o.trans bO.o);have bY:=Aa (aP.o.trans (aO.o.trans bD.o));have aB:=World.block_lt_of_cell? _ _ Q0.o;have bW:=Aa (bU.o.set2 q0 q1 (fun j hj=>(Below.cell bD.o (show(⟨q,j,none⟩:Addr).block<w1.heap.size from aB)).trans (Q2.o j hj)) (fun l hl=>Oc hl) (.int .i64 N) (.slice la (Cd N S N).length lc));exact bodyPost_ret (v:= .tuple #[.agg #[.int .i64 N,.slice la (Cd N S N).length lc],.int .i64 0]) (by simp[results,Tryz.results123,go_sem,q0,q1]) rfl ⟨IX HP.o bW.o,(bY.o.setCell (p:=⟨q,0,none⟩) (Nat.le_of_eq HQ.o) _).setCell (p:=⟨q,1,none⟩) (Nat.le_of_eq HQ.o) _⟩
 .have HP:=Aa (show CU n rows=(⟨0, []⟩,e) from by unfold CU;rw[he,if_pos h0]);have hb:(e !=0)=true:=by simpa using h0
  clear h0 he;go_wp2_with fail
  exact bodyPost_ret (v:= .tuple #[.agg #[.int .i64 0,.slice none 0 0],.int .i64 e]) (by simp[results,Tryz.results123,go_sem,q0,q1]) rfl ⟨IX HP.o (D6.nil _),((aP.o.trans aO.o).setCell (p:=⟨q,0,none⟩) (Nat.le_of_eq HQ.o) _).setCell (p:=⟨q,1,none⟩) (Nat.le_of_eq HQ.o) _⟩
def Ed(p m:Nat)(ml:List Int)(Ms:List Cw):List (List Int):=Ms.map fun M=>L3 p m ml M.perm M.scale
def R5(N:Nat)(M:Cw):Prop:=M.perm.length=N/\M.scale.length=N/\Bz M.perm N=true
theorem JX{n:Int}{rows:List (List Int)}{l:Lv}(h:l∈(CU n rows).1.lev):2<=l.orb.length/\2<=l.reps.length/\∀r∈l.reps,2<=r.length:=by
 unfold CU at h;split at h
 .cases h
 .exact Oc h
theorem Y7(w:World):(w.alloc (.cells #[.int .i64 0,.slice none 0 0] 43)).cell? ⟨w.heap.size,0,none⟩=some (.int .i64 0)/\(w.alloc (.cells #[.int .i64 0,.slice none 0 0] 43)).cell? ⟨w.heap.size,1,none⟩=some (.slice none 0 0)/\
  (∀j,2<=j->(w.alloc (.cells #[.int .i64 0,.slice none 0 0] 43)).cell? ⟨w.heap.size,j,none⟩=none)/\(w.alloc (.cells #[.int .i64 0,.slice none 0 0] 43)).frozen? ⟨w.heap.size,0,none⟩=false/\(w.alloc (.cells #[.int .i64 0,.slice none 0 0] 43)).frozen? ⟨w.heap.size,1,none⟩=false:=
 ⟨ag,ag,fun j hj=>by
  obtain⟨i,rfl⟩:∃i,j=i+2:=⟨j-2,ac⟩;simp,ag,ag⟩
structure Yl(w:World)(b:Nat):Prop where
 c0:w.cell? ⟨b,0,none⟩=some (.int .i64 0)
 c1:w.cell? ⟨b,1,none⟩=some (.slice none 0 0)
 c2:∀j,2<=j->w.cell? ⟨b,j,none⟩=none
 f0:w.frozen? ⟨b,0,none⟩=false
 f1:w.frozen? ⟨b,1,none⟩=false
theorem Yl.new(w:World):Yl (w.alloc (.cells #[.int .i64 0,.slice none 0 0] 43)) w.heap.size:=by
 obtain⟨a,b,c,d,e⟩:=Y7 w;exact⟨a,b,c,d,e⟩
theorem Yl.ex{w w':World}{b:Nat}(h:Yl w b)(hx:Ex w w'):Yl w' b:=⟨hx.cell h.c0,hx.cell h.c1,fun j hj=>(Below.cell hx (show(⟨b,j,none⟩:Addr).block<w.heap.size from(World.block_lt_of_cell? _ (⟨b,0,none⟩:Addr) h.c0:b<w.heap.size))).trans (h.c2 j hj),hx.frz h.c0 h.f0,hx.frz h.c1 h.f1⟩
theorem IB{w0 w:World}{q:Nat}(hx:Ex w0 w)(hq:w0.heap.size<=q)(u v:Value):Ex w0 ((w.setCell ⟨q,0,none⟩ u).setCell ⟨q,1,none⟩ v):=(hx.setCell (p:=⟨q,0,none⟩) hq _).setCell (p:=⟨q,1,none⟩) hq _
section
variable {b p m x0:Nat} {ml:List Int}
theorem Il(w:World)(hg:AP w b p m ml x0)(N:Nat)(hN:N<=64)(hd:N*(p^m-1)<=64)(Ms:List Cw)(mv:Value)(hM:MP w mv Ms)(aF:∀M∈Ms,R5 N M)(aG:Ms.length<=1000):
  Calls Tryz.prog 64 #[.pointer (some ⟨b,0,none⟩),.int .i64 N,mv] w fun r w'=>WC ((N*(p^m-1):Nat):Int) (Ed p m ml Ms) r w'/\Ex w w':=by
 have bJ:=Aa (Yl.new w);have aU:=Aa (fun (w1:World) (h:Ex w w1) (M:Cw) (hM:M∈Ms) (u v:Value) (hu:Aj w1 u M.perm) (hv:Aj w1 v M.scale)=>Pd w1 (hg.ex h) N hN M.perm M.scale u v hu hv (aF M hM).1 (aF M hM).2.1 (aF M hM).2.2 hd M.frob);have bL:2<=p^m:=Nat.le_trans hg.sh.p2 (Nat.le_self_pow (by have:=hg.sh.m1;omega) p);have bK:=hg.sh.q;have bE:=Aa (fun w1 (h:Ex w w1)=>BN w1 (hg.ex h));have bW:=Aa (fun (M:Cw) (hM:M∈Ms)=>(show L3 p m ml M.perm M.scale=il (N*(p^m-1)) (OF p m ml M.perm M.scale) from by unfold L3;rw[(aF M hM).1]));obtain⟨GL,aM⟩:∃g,Ed p m ml Ms=g:=⟨_,rfl⟩;have aX:=Aa (show ∀k (M:Cw),Ms[k]?=some M->GL.take (k+1)=GL.take k ++ [il (N*(p^m-1)) (OF p m ml M.perm M.scale)] from fun k M h=>by
  rw[<-aM,<-bW.o M (List.mem_of_getElem? h)];exact DG (by unfold Ed;rw[List.getElem?_map,h];rfl))
 have aV:=Aa (show GL.length=Ms.length from by rw[<-aM];unfold Ed;rw[List.length_map]);rw[aM];have HM:=Aa hM;obtain⟨q,hq⟩:=nA (p^m);rw[hq]at bE aU aX bL bK hd ⊢;obtain⟨D,hD⟩:=nA (N*(q-1));have kD:(N:Int)*((q:Int)-1)=(D:Int):=by rw[<-hD,Int.natCast_mul,Int.natCast_sub ac];rfl
 rw[hD]at aU aX hd ⊢;obtain⟨ma,mc,rfl,z1,z2,m3⟩:=hM.open;unfold maxLen at z2;have M3:=Aa m3;obtain⟨LM,aS⟩:∃n,Ms.length=n:=⟨_,rfl⟩;rw[aS]at HM M3 aV z1 aG ⊢;have bS:=Aa aS;have bV:=Aa kD;clear hg hM aF m3 aS aM hD hq kD;go_enter Tryz.func64,Tryz.ntmps64
 go_upto_region 1 with fail
 obtain⟨RB,aL⟩:∃x,w.heap.size=x:=⟨_,rfl⟩;rw[aL]at bJ;have aT:=Aa (show Ex w (w.alloc (.cells #[.int .i64 0,.slice none 0 0] 43)) from(Ex.refl w).alloc _)
 try simp only[aL]
 have bQ:=Aa aL;clear aL;generalize w.alloc (.cells #[.int .i64 0,.slice none 0 0] 43)=w1 at *;have bD:=Aa (BA.nil w1 w1.heap.size);go_wp2_with fail
 go_loopw [8,13] (fun gv k' wr=>∃(k:Nat) (vals:List Value),k<=LM/\k'= .int .i64 k/\Hia (BA wr w1.heap.size gv (GL.take k) vals)/\Hia (Ex w1 wr)) (fun _ k' _=>LM-(intOf k').toNat)
 case atStart=>exact⟨0, [],ac,rfl,bD,Ex.refl _⟩
 case round=>
  clear bD;obtain⟨k,vals,hk,rfl,hr,hx⟩:=hrel;obtain⟨ga,gc,rfl⟩:=Ab hr.o.cvo;by_cases hkl:k<LM
  .obtain⟨mb,mo,rfl,aY⟩:=M3.o ac;obtain⟨M,hM⟩:∃M,Ms[k]?=some M:=⟨_,List.getElem?_eq_getElem (by rw[bS.o];exact hkl)⟩;obtain⟨u,r,d0,d1,d2,hu,aQ⟩:=aY k M hM;obtain⟨ua,uc,rfl,-,-,-⟩:=hu.open;obtain⟨ra,rc,rfl,-,-,-⟩:=aQ.open;have aE:=Aa (aT.o.trans hx.o);replace d0:=aE.o.cell d0;replace d1:=aE.o.cell d1;replace d2:=aE.o.cell d2;rw[show mo+3*k=mo+k*3 from ac]at d0;rw[show mo+(3*k+1)=mo+k*3+1 from ac]at d1;rw[show mo+(3*k+2)=mo+k*3+2 from ac]at d2;have HU:=Aa (hu.ex aE.o);have bC:=Aa (aQ.ex aE.o);obtain⟨LP,bA⟩:∃x,M.perm.length=x:=⟨_,rfl⟩;obtain⟨LS,aZ⟩:∃x,M.scale.length=x:=⟨_,rfl⟩;rw[bA]at d0 HU;rw[aZ]at d1 bC;have HR:=Aa hr.o;have HX:=Aa hx.o;have bG:=Aa hM;have i1:(0:Int)<=(k:Int):=by omega
   have i2:(k:Int)<(LM:Int):=ac;have aW:=Aa hkl;obtain⟨TB,aK⟩:∃x,wr.heap.size=x:=⟨_,rfl⟩;obtain⟨t0,t1,t2,et⟩:=Ay wr (.slice ua LP uc) (.slice ra LS rc) M.frob;rw[aK]at t0 t1 t2;have aD:=Aa et;clear hr hx hM hu aQ aY hkl bA aZ et;go_upto_region 5 with fail
   try simp only[aK]
   have HTB:=Aa aK;clear aK d0 d1 d2 i1 i2;generalize wr.alloc (.cells #[.slice ua LP uc,.slice ra LS rc,.int .i64 M.frob] 26)=w5 at *;have aO:=Aa (aU.o w5 (aE.o.trans aD.o) M (List.mem_of_getElem? bG.o) _ _ (HU.o.ex aD.o) (bC.o.ex aD.o));go_wp2_with fail
   refine aO.o.mono ?_;rintro e w6⟨v6,rfl,aR,aB⟩;have bF:=Aa aR;obtain⟨va,vc,rfl⟩:=Ab aR;have aC:=Aa (aD.o.trans aB);obtain⟨LG,aA⟩:∃x,(GL.take k).length=x:=⟨_,rfl⟩;have bT:=Aa aA;have bH:=Aa (show LG<=1000 from by rw[<-aA,List.length_take];omega);rw[aA]at HR ⊢;have bR:=Aa (show w6.ownsRow w1.heap.size 22 1 (.slice ga LG gc) LG vals from by have:=(HR.o.ex aC.o).cvo;rwa[aA]at this);have bP:=Aa (HX.o.trans aC.o).size;have hkb:k<=1000:=by omega
   clear aR aB t0 t1 t2 aO aA;go_wp2_with (at_builtin;refine Ak _ rfl _ _ 37 rfl w1.heap.size 22 (.slice none 0 0) 1 24 Tryz.underlying37 BB rfl ae _ LG vals rfl bR.o [.slice va D vc] 22 _ rfl ag rfl aj (by have:=bH.o;unfold maxLen;omega) (by have:=bH.o;omega) bP.o ?_)
   intro v8 w8 aJ;have aH:AZ w6 w8 w1.heap.size 22 1 (.slice ga LG gc) v8 (GL.take k).length vals [.slice va D vc]:=by rw[bT.o];exact aJ
   have HN:=Aa ((HR.o.ex aC.o).app (L:=il D (OF p m ml M.perm M.scale)) (by rw[Am,CO];exact EG bF.o (Nat.le_trans HX.o.size aD.o.size)) (Fv (fun X e=>Nat.le_trans aD.o.size (bF.o.lt X e).1) (fun X e=>(HR.o.cvo.lt X e).2)) aH);rw[<-aX.o k M bG.o]at HN;have bB:=Aa (aJ.ex (HX.o.trans aC.o) (Nat.le_refl _));obtain⟨ga8,gc8,rfl⟩:=Ab aJ.own;clear aJ aH;go_wp2_with fail
   go_roundw
   case rel=>first|exact⟨k+1,_,by have:=aW.o;omega,by go_num,HN,bB⟩|((repeat apply Exists.intro);exact⟨⟨k+1,_,by have:=aW.o;omega,by go_num,HN,bB⟩,rfl⟩)
   case measure=>have:=aW.o;simp[intOf];omega
  .obtain rfl:LM=k:=by omega
   have bO:=Aa (show GL.take LM=GL from List.take_of_length_le (by rw[aV.o];exact Nat.le_refl _));rw[bO.o]at hr ⊢;obtain⟨HX,HMS,bI,aO⟩:=Eq hx.o hr.o.msl (Ll wr (D:Int) GL _ hr.o.msl (by rw[aV.o];exact aG)) (bE.o wr (aT.o.trans hx.o));have k3:=bV.o;obtain⟨BS,aN⟩:∃x,CU (D:Int) GL=x:=⟨_,rfl⟩;have bX:=Aa aN;obtain⟨⟨bd,bl⟩,be⟩:=BS;have aI:=Aa (show Calls Tryz.prog 123 #[.int .i64 (D:Int),.slice ga GL.length gc] wr fun r w'=>(∃v,r= .returned (.tuple #[.agg #[.int .i64 bd,v],.int .i64 be])/\D6 w' v bl)/\Ex wr w' from bI.o.mono (by
    rintro r w'⟨⟨v,h1,h2⟩,h3⟩;rw[aN]at h1 h2;exact⟨⟨v,h1,h2⟩,h3⟩))
   have bY:=Aa (show ∀l∈bl,2<=l.orb.length/\2<=l.reps.length/\∀r∈l.reps,2<=r.length from fun l hl=>JX (n:=(D:Int)) (rows:=GL) (by rw[aN];exact hl));obtain⟨LG,aA⟩:∃x,GL.length=x:=⟨_,rfl⟩;rw[aA]at aI ⊢;have HQ:=Aa (bJ.o.ex hx.o);clear hr hx bI aN aA;go_wp2_with (first|(go_at_call 54;refine aO.o.mono ?_;rintro e w5⟨rfl,rfl⟩)|(go_at_call 123;refine aI.o.mono ?_;rintro e w6⟨⟨v6,rfl,aP⟩,aB⟩;obtain⟨la,lc,bM,_,_,_⟩:=aP.open;subst bM;obtain⟨q0,q1,q2,qf0,qf1⟩:=HQ.o.ex aB;have bN:=Aa aP;have aC:=Aa aB;clear aP aB))
   have bU:=Aa (bN.o.set2 q0 q1 q2 bY.o (.int .i64 bd) (.slice la bl.length lc));exact bodyPost_ret (v:= .tuple #[.agg #[.int .i64 bd,.slice la bl.length lc],.int .i64 be]) (by simp[results,Tryz.results64,go_sem,q0,q1]) rfl ⟨IX bX.o bU.o,IB (aT.o.trans (HX.o.trans aC.o)) (Nat.le_of_eq bQ.o) _ _⟩
end
end Go.Proofs.YtehieobniamagaaGreat
