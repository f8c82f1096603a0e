/- Walk of automorphism.run. -/
import Derived.Test.YtehieobniamagaaGreatZi28
namespace Go.Proofs.YtehieobniamagaaGreat
open Nat renaming le_trans→μ,le_refl→ζ,lt_of_lt_of_le→Δ
open List renaming getElem?_eq_getElem→γ,length_map→Ϛ,length_filter_le→δg,take_length→γf,mem_cons_of_mem→ω,mem_cons→ϒ,mem_cons_self→Θ,mem_append→γj,mem_append_right→Ϝ,mem_append_left→δl,length_append→ν,getElem?_append_left→ο,getElem?_append_right→τ,range→ξ,range_succ→γg,filter_append→ιe,filter→ιh,append_nil→ζp,map_append→δe
open Go.World renaming ownsRow_nil→ϋ,cell?_setCell_same→φ,setCell→ιk
open Go.RowKit
set_option linter.all false
set_option maxRecDepth 100000
set_option maxHeartbeats 8000000
theorem TM(c:AX)(g:Cd):(gM c g).frob=0:=by
 unfold gM Jk;split
 .rfl
 .split <;> rfl
def RunO(b0:Nat)(c:AX)(r:Ending)(w':World):Prop:=∃e0:Int,Bw c.p c.m c.ml c.n c.rows e0/\
 ((IS c e0≠0/\r= .returned (.tuple #[.pointer none,(),(),.int .i64 (IS c e0)]))∨
 (IS c e0=0/\NZ c (Dw c.n.toNat (c.p.toNat^c.m.toNat))≠none/\r= .returned (.tuple #[.pointer none,(),(),.int .i64 (YE c (Dw c.n.toNat (c.p.toNat^c.m.toNat)))]))∨
 (IS c e0=0/\NZ c (Dw c.n.toNat (c.p.toNat^c.m.toNat))=none/\∃(pn mn N b x0:Nat) (mv nv:Value),c.p=pn/\c.m=mn/\c.n=N/\1<=N/\N<=64/\N*(pn^mn-1)<=64/\r= .returned (.tuple #[(b,0),mv,nv,Ω])/\
   Bh w' b pn mn c.ml x0/\1<=x0/\x0<pn^mn/\Pb w' mv (Di c (Dw c.n.toNat (c.p.toNat^c.m.toNat)))/\YK b0 w' nv (JH c (Dw c.n.toNat (c.p.toNat^c.m.toNat)))))
theorem zby{P:Prop}(h:P:=by
 clear aI aA aG aF aE x3 x4 t0 t1 t2;go_wp2_with fail
 go_roundw
 case rel=>exact⟨k+1,_,_,rfl,by have:=aR.o;omega,by go_num,cF.o,HN⟩
 case measure=>have:=aR.o;simp[intOf];omega):P:=h
theorem eh{P:Prop}(h:P:=by simp[results,Tryz.results63,go_sem]):P:=h
theorem IY(w:World)(c:AX)(m1 v1:Value)(hc:c.at w m1 v1):
  Calls Tryz.prog 63 #[c.arg m1 v1] w fun r w'=>RunO w.heap.size c r w'/\Ex w w':=by
 obtain⟨c0,c1,c2,c3,c4⟩:=C8 w c m1 v1;have bQ:=AF w (c.obj m1 v1);have aS:=Aa (hc.ex bQ);obtain⟨x1,y1,bT,-,z1,-⟩:=hc.g.open;obtain⟨x3,y3,bS,-,z3,-⟩:=hc.m.open;unfold maxLen at z1 z3;have aO:=Aa (K4 (w.alloc (c.obj m1 v1)) c m1 v1 aS.o);have aQ:=Aa (fun (w5:World) (h5:Ex (w.alloc (c.obj m1 v1)) w5) (g:Cd) (u r:Value) (hu:Ak w5 u g.tl) (hr:Ak w5 r g.sl)=>VH w5 c c m1 m1 v1 v1 (aS.o.ex h5) (aS.o.ex h5) g.tl g.sl u r hu hr);obtain⟨B,hB⟩:=nA w.heap.size;rw[hB]at c0 c1 c2 c3 c4;have aL:=Aa bQ;obtain⟨C,hC⟩:∃C:AX,C=c:=⟨_,rfl⟩;have cE:=Aa hC;have cA:Hia (∀r w',RunO w.heap.size C r w'->RunO w.heap.size c r w'):=Aa (fun r w' h=>by rw[<-hC];exact h);obtain⟨cp,cm,aK,cn,aX⟩:=c;unfold AX.arg at aO aQ ⊢;unfold AX.obj at aL aO aS aQ c0 c1 c2 c3 c4;dsimp only at aL aO aS aQ c0 c1 c2 c3 c4 bT bS ⊢;rw[bT,bS]at aL aO aQ c0 c1 c2 c3 c4 ⊢;rw[<-hC]at aO aQ;clear hc bQ hC bT bS aS;go_enter Tryz.func63,Tryz.ntmps63
 go_upto_region 1 with fail
 try simp only[hB]
 clear hB;generalize w.alloc (.cells #[cp,cm,(x3,aK.length,y3),cn,(x1,aX.length,y1)] 39)=w1 at *;go_wp2_with fail
 refine aO.o.mono ?_;rintro e w2⟨⟨e0,cO,ho⟩,aB⟩;have aZ:=Aa aB;have bP:=Aa cO;replace c0:=aB.cell c0;replace c1:=aB.cell c1;replace c2:=aB.cell c2;replace c3:=aB.cell c3;replace c4:=aB.cell c4;clear aB cO aO;obtain⟨OE,aJ⟩:∃x,IS C e0=x:=⟨_,rfl⟩;rw[aJ]at ho;have bM:=Aa aJ;rcases ho with⟨h0,ptr,d,rfl⟩|⟨h0,pn,mn,N,b,x0,hp,hm,hn,hN1,hN64,hD,rfl,hg,hx1,aB⟩
 .have hb:(OE !=0)=true:=by simpa using h0
  have H0:=Aa h0;clear h0 aJ;go_wp2_with fail
  exact bodyPost_ret (v:= .tuple #[.pointer none,(),(),OE]) eh rfl ⟨cA.o _ _ ⟨e0,bP.o,.inl ⟨by rw[bM.o];exact H0.o,by rw[bM.o]⟩⟩,aL.o.trans aZ.o⟩
 .subst h0;have eB:Hia (e0=0):=Aa (by
   unfold IS at aJ;split at aJ
   .exact aJ
   .omega)
  have dK:cn=(N:Int):=by have:=cE.o;rw[this]at hn;exact hn
  subst dK;obtain⟨bB,aN,HN,HG,cU⟩:=On (show C.p=pn/\C.m=mn/\C.n=N from⟨hp,hm,hn⟩) (show Dw C.n.toNat (C.p.toNat^C.m.toNat)=Dw N (pn^mn) from by rw[hp,hm,hn];rfl) (show 1<=N/\N<=64/\N*(pn^mn-1)<=64 from⟨hN1,hN64,hD⟩) hg (show 1<=x0/\x0<pn^mn from⟨hx1,aB⟩);have cH:2<=pn^mn:=μ hg.sh.p2 (Nat.le_self_pow (by have:=hg.sh.m1;omega) pn);have bG:=hg.sh.q;have dB:=Aa (fun (w5:World) (h5:Ex w2 w5)=>Cv w5 (HG.o.ex h5));have bO:=Aa (fun (w5:World)=>Nj w5 N (pn^mn) hN64 ac bG);have cD:Hia (∀(w5:World) (h5:Ex w1 w5) (g:Cd) (u r:Value),g∈Dw N (pn^mn)->Ak w5 u g.tl->Ak w5 r g.sl->Calls Tryz.prog 122 #[.agg #[cp,cm,(x3,aK.length,y3),N,(x1,aX.length,y1)],.agg #[cp,cm,(x3,aK.length,y3),N,(x1,aX.length,y1)],.agg #[u,r]] w5 fun r' w'=>MoF w5.heap.size (gM C g) (gE C g) r' w'/\Ex w5 w'):=Aa (fun w5 h5 g u r dJ hu hr=>by
   refine(aQ.o w5 h5 g u r hu hr).mono ?_;rintro r' w'⟨⟨e1,e2,k1,k2,k3⟩,k4⟩;refine⟨?_,k4⟩;have hz:=eB.o;have aU:Bw cp cm aK N aX 0:=by have h1:=bP.o;rw[cE.o,hz]at h1;exact h1
   obtain rfl:e1=0:=B3 k1 aU;obtain rfl:e2=0:=B3 (k2 rfl) aU;have cI:=bB.o.1;have cJ:=bB.o.2.1;rw[cE.o]at cI cJ;have BF:F5 0 0 (CE cp cm aK cp cm aK) N N g.tl g.sl (cp.toNat^cm.toNat)=0:=Se (N:=N) rfl (q:=cp.toNat^cm.toNat) (by
    have h1:cp=pn:=cI;have h2:cm=mn:=cJ;rw[h1,h2];exact Ix dJ)
   rw[BF]at k3;exact k3)
  obtain⟨q,hq⟩:=nA (pn^mn);have HQ:=Aa hq;rw[hq]at dB bO cD aN cH bG;have dV:=Aa bG;clear hp hm hn hN1 hN64 hD hg hx1 aB hq cH bG aQ aJ;obtain⟨GS,bX⟩:∃g,Dw N q=g:=⟨_,rfl⟩;rw[bX]at cD aN bO;have dY:=Aa bX;obtain⟨LG,cT⟩:∃n,GS.length=n:=⟨_,rfl⟩;have aP:=Aa cT;have dF:=Aa (fun (w5:World) (h5:Ex w2 w5)=>h5.cell c3);have eC:=Aa (fun (w5:World) (h5:Ex w2 w5)=>(⟨h5.cell c0,h5.cell c1,h5.cell c2,h5.cell c3,h5.cell c4⟩:w5.cell? (B,0)=some (.int .i64 cp)/\w5.cell? (B,1)=some (.int .i64 cm)/\w5.cell? (B,2)=some (.slice x3 aK.length y3)/\w5.cell? (B,3)=some (.int .i64 N)/\w5.cell? (B,4)=some (.slice x1 aX.length y1)));clear bX cT c0 c1 c2 c4;go_wp2_with fail
  clear c3;have G0:Ex w2 w2.drew:=(Ex.refl w2).drew
  go_cut [23,24,25] from 19 to 25 (fun gv lv zv wx=>∃ga gc,gv= .slice ga LG gc/\lv= .int .i64 LG/\zv= .int .i64 0/\Hia (YK w2.heap.size wx gv GS)/\Hia (Ex w2 wx))
  case first=>
   go_region_held3 (fun w'=>w'.cell? (B,3)=some (.int .i64 N))
    (first|with_reducible exact dF.o _ X6|with_reducible exact dF.o _ G0)
    (first|(go_at_call 54;(with_reducible refine(dB.o _ G0).mono ?_);rintro e w5⟨rfl,rfl⟩)|(go_at_call 121;(with_reducible refine(bO.o _).mono ?_);rintro e w6⟨v6,cs6,rfl,bI⟩;have X6:=G0.trans bI.ex;have dS:=Aa (bI.gsl.mono (show w2.heap.size<=w2.drew.heap.size from ζ _));obtain⟨dM,dL,cG⟩:=Ad bI.own;rw[aP.o]at cG;subst cG;clear bI))
   all_goals
    go_wp2_with fail
    go_meet
    exact⟨dM,dL,rfl,rfl,rfl,dS,Aa X6⟩
  case rest=>
   obtain⟨ga,gc,rfl,rfl,rfl,bH,bR⟩:=hcut;obtain⟨w3,h3⟩:∃x,x=wc:=⟨_,rfl⟩;rw[<-h3]at bH bR ⊢;have aY:=Aa bR.o;have HGL:=Aa bH.o;obtain⟨dN,gc',cN,g1,g2,g3⟩:=bH.o.open;have aT:dN=ga:=by injection cN with e1 e2 e3;exact e1.symm
   have eA:Hia (0<LG->∃b o,ga=some ⟨b,o,none⟩/\∀(i:Nat) (l:Cd),GS[i]?=some l->∃u r,w3.cell? ⟨b,o+5*i,none⟩=some (.int .i64 l.i)/\w3.cell? ⟨b,o+(5*i+1),none⟩=some (.int .i64 l.j)/\w3.cell? ⟨b,o+(5*i+2),none⟩=some (.int .i64 l.a)/\w3.cell? ⟨b,o+(5*i+3),none⟩=some u/\w3.cell? ⟨b,o+(5*i+4),none⟩=some r/\Ak w3 u l.tl/\Ak w3 r l.sl/\(∀X,u.ownBlock=some X->w2.heap.size<=X)/\∀X,r.ownBlock=some X->w2.heap.size<=X):=Aa (fun h=>by
    rw[<-aT];exact g3 (by rw[aP.o];exact h))
   have dA:=Aa (Rb.nil w2.heap.size w3);have dC:Hia (LG<=1048576):=Aa (by rw[<-aP.o,<-dY.o];have:=OH N q HN.o.2.1 dV.o N;have:=HN.o.2.1;unfold Dw;omega);clear bH bR g1 g2 g3 cN aT h3 G0 bO;go_wp2_with fail
   go_loopw [2,3,4,25] (fun pv mv nv k' wr=>∃(k:Nat) (cs ds:List (Value × Value)),pv= .pointer (some (b,0))/\k<=LG/\k'= .int .i64 k/\NZ C (GS.take k)=none/\Hia (Rb w2.heap.size w3 wr mv nv (Di C (GS.take k)) cs (JH C (GS.take k)) ds)) (fun _ _ _ k' _=>LG-(intOf k').toNat)
   case atStart=>exact⟨0, [], [],rfl,ac,rfl,rfl,dA⟩
   case round=>
    clear dA;obtain⟨k,cs,ds,rfl,hk,rfl,aW,hr⟩:=hrel;obtain⟨ma,mc,rfl⟩:=Ad hr.o.mown;obtain⟨na,nc,rfl⟩:=Ad hr.o.nown;by_cases hkl:k<LG
    .obtain⟨gb,go,rfl,cK⟩:=eA.o ac;obtain⟨g,hg⟩:∃g,GS[k]?=some g:=⟨_,γ (by rw[aP.o];exact hkl)⟩;obtain⟨u,r,d0,d1,d2,d3,d4,hu,bV,cP,cQ⟩:=cK k g hg;have dG:=Aa cP;have dH:=Aa cQ;clear cP cQ;obtain⟨ua,uc,rfl,-,-,-⟩:=hu.open;obtain⟨ra,rc,rfl,-,-,-⟩:=bV.open;rw[AP]at d3;rw[BL]at d4;have HU:=Aa hu;have bZ:=Aa bV;rw[AP]at HU dG;rw[BL]at bZ dH;replace d0:=hr.o.ex.cell d0;replace d1:=hr.o.ex.cell d1;replace d2:=hr.o.ex.cell d2;replace d3:=hr.o.ex.cell d3;replace d4:=hr.o.ex.cell d4;obtain⟨HR,bE,bF,dZ⟩:=Of hr.o hg aW (List.mem_of_getElem? hg);rw[show go+5*k=go+k*5 from ac]at d0;rw[show go+(5*k+1)=go+k*5+1 from ac]at d1;rw[show go+(5*k+2)=go+k*5+2 from ac]at d2;rw[show go+(5*k+3)=go+k*5+3 from ac]at d3;rw[show go+(5*k+4)=go+k*5+4 from ac]at d4;have i1:(0:Int)<=(k:Int):=by omega
     have i2:(k:Int)<(LG:Int):=ac;have aR:=Aa hkl;clear hr hg aW hu bV cK hkl;go_upto_region 7 with fail
     obtain⟨XB,aC⟩:∃x,wr.heap.size=x:=⟨_,rfl⟩;have x3:(wr.alloc (.cells #[.int .i64 g.i,.int .i64 g.j,.int .i64 g.a,.slice ua (g.i+1) uc,.slice ra (g.i+1) rc] 129)).cell? (XB,3)=some (.slice ua (g.i+1) uc):=dl;have x4:(wr.alloc (.cells #[.int .i64 g.i,.int .i64 g.j,.int .i64 g.a,.slice ua (g.i+1) uc,.slice ra (g.i+1) rc] 129)).cell? (XB,4)=some (.slice ra (g.i+1) rc):=dl;have aG:(wr.alloc (.cells #[.int .i64 g.i,.int .i64 g.j,.int .i64 g.a,.slice ua (g.i+1) uc,.slice ra (g.i+1) rc] 129)).cell? (XB,0)=some (.int .i64 g.i):=dl;have aF:(wr.alloc (.cells #[.int .i64 g.i,.int .i64 g.j,.int .i64 g.a,.slice ua (g.i+1) uc,.slice ra (g.i+1) rc] 129)).cell? (XB,1)=some (.int .i64 g.j):=dl;have aE:(wr.alloc (.cells #[.int .i64 g.i,.int .i64 g.j,.int .i64 g.a,.slice ua (g.i+1) uc,.slice ra (g.i+1) rc] 129)).cell? (XB,2)=some (.int .i64 g.a):=dl;have aM:=Aa (show Ex wr (wr.alloc (.cells #[.int .i64 g.i,.int .i64 g.j,.int .i64 g.a,.slice ua (g.i+1) uc,.slice ra (g.i+1) rc] 129)) from(Ex.refl wr).alloc _)
     try simp only[aC]
     have HXB:=Aa aC;clear aC d0 d1 d2 d3 d4 i1 i2;generalize wr.alloc (.cells #[.int .i64 g.i,.int .i64 g.j,.int .i64 g.a,.slice ua (g.i+1) uc,.slice ra (g.i+1) rc] 129)=w5 at *;obtain⟨c0,c1,c2,c3,c4⟩:=eC.o w5 (aY.o.trans (HR.o.ex.trans aM.o));have cC:=Aa (cD.o w5 (aZ.o.trans (aY.o.trans (HR.o.ex.trans aM.o))) g _ _ dZ.o (HU.o.ex (HR.o.ex.trans aM.o)) (bZ.o.ex (HR.o.ex.trans aM.o)));obtain⟨EE,bY⟩:∃x,gE C g=x:=⟨_,rfl⟩;rw[bY]at cC;have aD:=Aa bY;go_wp2_with fail
     refine cC.o.mono ?_;rintro e w6⟨⟨u6,r6,rfl,bU,bW,cM,cL⟩,aH⟩;rw[TM];obtain⟨cW,cZ,dE,dD⟩:=Of bU bW cM cL;obtain⟨a6,b6,rfl,-,-,-⟩:=bU.open;obtain⟨a7,b7,rfl,-,-,-⟩:=bW.open;obtain⟨LP,cS⟩:∃x,(gM C g).perm.length=x:=⟨_,rfl⟩;obtain⟨LS,cR⟩:∃x,(gM C g).scale.length=x:=⟨_,rfl⟩;rw[cS]at cW dE ⊢;rw[cR]at cZ dD ⊢;have dO:=Aa (aM.o.trans aH);replace aG:=aH.cell aG;replace aF:=aH.cell aF;replace aE:=aH.cell aE;replace x3:=aH.cell x3;replace x4:=aH.cell x4;obtain⟨t0,t1,t2,et⟩:=BA w6 (.slice a6 LP b6) (.slice a7 LS b7) 0;obtain⟨TB,bJ⟩:∃x,w6.heap.size=x:=⟨_,rfl⟩;rw[bJ]at t0 t1 t2;have cV:=Aa (dO.o.trans et);replace aG:=et.cell aG;replace aF:=et.cell aF;replace aE:=et.cell aE;replace x3:=et.cell x3;replace x4:=et.cell x4;have dP:=Aa (cW.o.ex et);have dU:=Aa (cZ.o.ex et);have HTB:=Aa bJ;clear bU bW cM cL cS cR aH et cC bY c0 c1 c2 c3 c4;go_upto_region 8 with fail
     try simp only[bJ]
     clear bJ;generalize w6.alloc (.cells #[(a6,LP,b6),(a7,LS,b7),Ω] 26)=w7 at *;obtain⟨LM,bL⟩:∃x,(Di C (GS.take k)).length=x:=⟨_,rfl⟩;obtain⟨LN,bK⟩:∃x,(JH C (GS.take k)).length=x:=⟨_,rfl⟩;have bN:Hia (LM<=1048576/\LN<=1048576):=Aa (by
      have hkk:=aR.o;have hl:=dC.o;constructor
      .rw[<-bL];unfold Di;rw[Ϛ];exact μ (δg _ _) bh
      .rw[<-bK];unfold JH;exact μ (δg _ _) bh)
     rw[bL,bK]at HR ⊢;have bD:=Aa bL;have bC:=Aa bK;have bA:=Aa (HR.o.later cV.o);have hk64:k<=1048576:=by have:=aR.o;have:=dC.o;omega
     have dI:=Aa (show(∀c:Value,(∀X,c.ownBlock=some X->w5.heap.size<=X)->AD c (.slice ma LM mc)/\AD c (.slice na LN nc)) from fun c hc=>
      ⟨BO hc fun X e=>Δ (HR.o.mown.lt X e).2 aM.o.size,BO hc fun X e=>Δ (HR.o.nown.lt X e).2 aM.o.size⟩)
     have cX:=Aa bA.o.ex.size;clear bL bK;by_cases h0:EE=0
     .subst h0;have HM:=Aa (Zn bE.o aD.o);have cF:=Aa (Wn bE.o bF.o (.inl aD.o));have cB:Hia (w7.ownsRow w3.heap.size 26 3 (.slice ma LM mc) LM (Vb (Di C (GS.take k)) cs)):=Aa (by have:=bA.o.mown;rwa[bD.o]at this);go_wp2_with (at_builtin;refine Al _ rfl _ _ 68 rfl w3.heap.size 26 (.agg #[(),(),Ω]) 3 56 Tryz.underlying68 Qn rfl ae _ LM _ rfl cB.o [.slice a6 LP b6,.slice a7 LS b7,.int .i64 0] 26 _ rfl ag rfl aj (by have:=bN.o.1;unfold maxLen;omega) (by have:=bN.o.1;omega) cX.o ?_)
      intro v8 w8 aI;have aA:Bz w7 w8 w3.heap.size 26 3 (.slice ma LM mc) v8 (Di C (GS.take k)).length (Vb (Di C (GS.take k)) cs) [.slice a6 LP b6,.slice a7 LS b7,.int .i64 (gM C g).frob]:=by rw[TM,bD.o];exact aI
      have HN:=Aa (bA.o.appM dP.o dU.o (dI.o _ dE.o) (dI.o _ dD.o) aA);rw[<-HM.o.1,<-HM.o.2]at HN;obtain⟨ma8,mc8,rfl⟩:=Ad aI.own;exact zby
     .by_cases h11:EE=11
      .subst h11;have HM:=Aa (Zm bE.o aD.o);have cF:=Aa (Wn bE.o bF.o (.inr aD.o));have cB:Hia (w7.ownsRow w3.heap.size 129 5 (.slice na LN nc) LN (Fy (JH C (GS.take k)) ds)):=Aa (by have:=bA.o.nown;rwa[bC.o]at this);clear h0;go_wp2_with (at_builtin;refine Al _ rfl _ _ 109 rfl w3.heap.size 129 (.agg #[Ω,Ω,Ω,(),()]) 5 72 Tryz.underlying109 Qo rfl ae _ LN _ rfl cB.o [.int .i64 (g.i:Int),.int .i64 (g.j:Int),.int .i64 (g.a:Int),.slice ua (g.i+1) uc,.slice ra (g.i+1) rc] 129 _ rfl ag rfl aj (by have:=bN.o.2;unfold maxLen;omega) (by have:=bN.o.2;omega) cX.o ?_)
       intro v8 w8 aI;have aA:Bz w7 w8 w3.heap.size 129 5 (.slice na LN nc) v8 (JH C (GS.take k)).length (Fy (JH C (GS.take k)) ds) [.int .i64 (g.i:Int),.int .i64 (g.j:Int),.int .i64 (g.a:Int),.slice ua (g.i+1) uc,.slice ra (g.i+1) rc]:=by rw[bC.o];exact aI
       have HN:=Aa (bA.o.appN HU.o bZ.o dG.o dH.o aA);rw[<-HM.o.1,<-HM.o.2]at HN;obtain⟨na8,nc8,rfl⟩:=Ad aI.own;exact zby
      .have k0:(EE==0)=false:=by simpa using h0
       have k11:(EE==11)=false:=by simpa using h11
       have cY:=Aa (Zo bE.o bF.o (by rw[aD.o];exact h0) (by rw[aD.o];exact h11));have dT:Hia (NZ C GS≠none):=Aa (fun hn=>by
        have h1:=cY.o;unfold YE at h1;rw[hn,aD.o]at h1;exact h0 h1.symm)
       clear h0 h11 aG aF aE x3 x4 t0 t1 t2;go_wp2_with fail
       exact bodyPost_ret (v:= .tuple #[.pointer none,(),(),EE]) eh rfl ⟨cA.o _ _ ⟨e0,bP.o,.inr (.inl ⟨bM.o,by rw[aN.o];exact dT.o,by rw[aN.o,cY.o,aD.o]⟩)⟩,aL.o.trans (aZ.o.trans (aY.o.trans (HR.o.ex.trans cV.o)))⟩
    .obtain rfl:LG=k:=by omega
     have aV:NZ C GS=none:=by rw[<-aP.o,γf]at aW;exact aW
     obtain⟨HR,dX,dW,dR,dQ,bF⟩:=Ty hr.o hr.o.msl hr.o.nsl (show Di C GS=Di C (GS.take LG) from by rw[<-aP.o,γf]) (show JH C GS=JH C (GS.take LG) from by rw[<-aP.o,γf]) aV;clear hr aW aV;go_wp2_with fail
     exact bodyPost_ret (v:= .tuple #[.pointer (some ⟨b,0,none⟩),.slice ma (Di C (GS.take LG)).length mc,.slice na (JH C (GS.take LG)).length nc,Ω]) eh rfl ⟨cA.o _ _ ⟨e0,bP.o,.inr (.inr ⟨bM.o,by rw[aN.o];exact bF.o,pn,mn,N,b,x0,_,_,bB.o.1,bB.o.2.1,bB.o.2.2,HN.o.1,HN.o.2.1,HN.o.2.2,rfl,HG.o.ex (aY.o.trans HR.o.ex),cU.o.1,cU.o.2,by rw[aN.o,dR.o];exact dX.o,by rw[aN.o,dQ.o];exact dW.o.mono (μ aL.o.size aZ.o.size)⟩)⟩,aL.o.trans (aZ.o.trans (aY.o.trans HR.o.ex))⟩
theorem Yf{n:Nat}{R:Nat->Nat->Option (Nat->Nat)}{k c:Nat}{p r:Nat->Nat}(h:R c (C9 (R c) p c n)=some r):Ug n R (k+1) c p=Ug n R k (c+1) (Ap r p):=by
 show Ug n R k (c+1) (Ap ((R c (C9 (R c) p c n)).getD Ep) p)=_
 rw[h];rfl
theorem QY{R:Nat->Option (Nat->Nat)}{p:Nat->Nat}{c n:Nat}(hc:c<n):∀x,x<=n->C9 R p c x<n
 | 0,_=>hc
 | x+1,h=>by
  unfold C9;split
  .omega
  .exact QY hc x (by omega)
theorem zbw{P:Prop}(h:P:=by
 go_wp2_with fail
 go_quiet (fail)
 go_wp2_with fail
 go_roundw
 case rel=>exact⟨x+1,_,by omega,by go_num,by rw[aE.o],by rw[<-aJ.o,World.drewN_drewN]⟩
 case measure=>exact Ωm):P:=h
theorem zbt{P:Prop}(h:P:=by
 clear aA hR hV hlt;exact zbw):P:=h
theorem PW(w:World){base n tb rb gb:Nat}{rr:Nat->Nat}{gv:Nat->Value}{V:Nat->Nat->Value}{mb:List Nat}{t:Tw}(hm:SG w base n tb rb gb rr gv V mb t)(hG:Db n t)(hn1:1<=n)(hn:n<=64)
  (u:Value) (f:Nat->Nat) (b:Nat) (hb:b<n) (hu:Ak w u (li n f)) (hP:Bo n f):
  Calls Tryz.prog 211 #[(tb,0),u,b] w fun r w'=>∃v,r= .returned v/\Ak w' v (li n (Ug n t.R (n-(b+1)) (b+1) f))/\(v=u∨∃g cap,v= .slice (some ⟨g,0,none⟩) n cap/\w.heap.size<=g)/\Ex w w':=by
 obtain⟨HM,HG,HU,HP⟩:=Of hm hG hu hP;obtain⟨ua,uc,rfl,_,_,_⟩:=Fd hu;obtain⟨E,hE⟩:=nA (Ug n t.R (n-(b+1)) (b+1) f);have HE:=Aa hE;rw[hE];clear hm hG hu hP hE;go_enter Tryz.func211,Tryz.ntmps211
 go_wp2_with fail
 go_loopw [1,7] (fun p' c' wr=>∃(c:Nat) (h:Nat->Nat) (a:Option Addr) (cap:Nat),c<=n/\c'= .int .i64 c/\p'= .slice a n cap/\Hia (Ak wr (.slice a n cap) (li n h))/\Hia (Bo n h)/\Hia (Ug n t.R (n-c) c h=E)/\Hia (Value.slice a n cap= .slice ua n uc∨∃g aI,Value.slice a n cap= .slice (some ⟨g,0,none⟩) n aI/\w.heap.size<=g)/\Hia (Ex w wr)) (fun _ c' _=>n-(intOf c').toNat)
 case atStart=>exact⟨b+1,f,ua,uc,ac,by go_num,rfl,HU,HP,HE,Aa (.inl rfl),Aa (Ex.refl _)⟩
 case round=>
  clear HU HP HE;obtain⟨c,h,a,cap,hc,rfl,rfl,hu,hp,he,aM,hx⟩:=hrel;have c0:=hx.o.cell HM.o.c0;have c1:=hx.o.cell HM.o.c1;by_cases hcn:c<n
  .obtain⟨pb,po,rfl,_,aL⟩:=Ft hu.o ac;have aQ:=Aa aL;have d2:=hx.o.cell (HM.o.ro c hcn);have D2:=Aa d2;have C1:=Aa c1;have i1:(0:Int)<=(c:Int):=by omega
   have i2:(c:Int)<(n:Int):=ac;clear aL;go_wp2_with fail
   go_loopw [8,30] (fun m' x' w2=>∃(x q:Nat),x<=n/\x'= .int .i64 x/\m'= .int .i64 (C9 (t.R c) h c x:Int)/\w2=wr.drewN q) (fun _ x' _=>n-(intOf x').toNat)
   case atStart=>exact⟨0,0,ac,rfl,rfl,rfl⟩
   case round=>
    clear c0 c1 d2;obtain⟨x,q,aR,rfl,rfl,rfl⟩:=hrel;have aG:=Aa (QY (R:=t.R c) (p:=h) hcn x aR);by_cases hxn:x<n
    .have EQ:=Aa ((Ex.refl wr).drewN q);have d3:=EQ.o.cell (hx.o.cell ((HM.o.row c hcn).cell hxn));have aA:=HM.o.rep c x hcn hxn;have aN:C9 (t.R c) h c (x+1)=if (t.R c x).isSome=true/\h x<h (C9 (t.R c) h c x) then x else C9 (t.R c) h c x:=rfl;have aC:=Aa aN;obtain⟨m,hm⟩:=nA (C9 (t.R c) h c x);rw[hm]at aG aC ⊢;have aF:m<n:=aG.o;have d4:=EQ.o.cell (aQ.o x hxn);have d5:=EQ.o.cell (aQ.o m aF);have i3:(0:Int)<=(x:Int):=by omega
     have i4:(x:Int)<(n:Int):=ac;have i5:(0:Int)<=(m:Int):=ac;have i6:(m:Int)<(n:Int):=ac;obtain⟨W,hW⟩:=nA (wr.drewN q);rw[hW]at d3 d4 d5 ⊢;have aJ:=Aa hW;clear aN hm hW
     cases hR:t.R c x with
     | none=>
      rw[hR]at aA aC;have aA:V c x= .slice none 0 0:=aA;rw[aA]at d3;have aE:Hia (C9 (t.R c) h c (x+1)=m):=Aa (by rw[aC.o,if_neg ag]);clear aA hR;exact zbw
     | some r=>
      rw[hR]at aA aC;have aA:CC w mb n (V c x) r:=aA;obtain⟨vb,vo,vc,hV,_,_,_,_⟩:=aA.at_;rw[hV]at d3;by_cases hlt:h x<h m
      .have aE:Hia (C9 (t.R c) h c (x+1)=x):=Aa (by rw[aC.o,if_pos ⟨rfl,hlt⟩]);have b1:decide ((h x:Int)<(h m:Int))=true:=by simp;omega
       have b2:decide (h x<h m)=true:=by simpa using hlt
       exact zbt
      .have aE:Hia (C9 (t.R c) h c (x+1)=m):=Aa (by rw[aC.o,if_neg (fun e=>hlt e.2)]);have b1:decide ((h x:Int)<(h m:Int))=false:=by simp;omega
       have b2:decide (h x<h m)=false:=by simpa using hlt
       exact zbt
    .obtain rfl:x=n:=by omega
     have aD:=HG.o.one c hcn;obtain⟨aO,_,_⟩:=GG (R:=t.R c) (p:=h) (c:=c) (by rw[aD];rfl) x;obtain⟨r,hr⟩:=Option.isSome_iff_exists.1 aO;obtain⟨m,hm⟩:=nA (C9 (t.R c) h c x);have bB:Hia (Ug x t.R (x-(c+1)) (c+1) (Ap r h)=E):=Aa (by
      rw[<-he.o,show x-c=x-(c+1)+1 by omega,Yf hr])
     rw[hm]at hr aG ⊢;have aF:m<x:=aG.o;have aA:=HM.o.rep c m hcn aF;rw[hr]at aA;have aA:CC w mb x (V c m) r:=aA;obtain⟨_,_,aH,_,_⟩:=HG.o.rep _ _ _ hr;obtain⟨vb,vo,vc,hV,_,_,_,_⟩:=aA.at_;have EQ:=Aa ((Ex.refl wr).drewN q);have d3:=EQ.o.cell (hx.o.cell ((HM.o.row c hcn).cell aF));have d4:=EQ.o.cell D2.o;have c1:=EQ.o.cell C1.o;rw[hV]at d3;have aP:=Aa (aA.ex (hx.o.trans EQ.o)).sl;rw[hV]at aP;have aV:=Aa (Gj (wr.drewN q) x r h _ _ aP.o (hu.o.ex EQ.o) ac aH.lt);have aU:=Aa (aH.comp hp.o);have i5:(0:Int)<=(m:Int):=bz;have i6:(m:Int)<(x:Int):=ac;have aW:=Aa (hx.o.trans EQ.o).size;clear aA hr hV aO aD aH he hm;go_wp2_with (go_at_call 108;refine aV.o.mono ?_;rintro e w3⟨g3,rfl,aB,aK⟩;have aX:=Aa aB.li;have aS:=Aa (hx.o.trans (EQ.o.trans aK));have aY:=Aa (μ aW.o aB.lt.1);clear aB aK)
     go_roundw
     case rel=>exact⟨c+1,Ap r h,some ⟨g3,0,none⟩,x,ac,by go_num,rfl,aX,aU,bB,Aa (.inr ⟨g3,x,rfl,aY.o⟩),aS⟩
     case measure=>exact Ωm
  .obtain rfl:c=n:=by omega
   have bA:Hia (h=E):=Aa (by rw[<-he.o,Nat.sub_self];rfl);have aT:=Aa hu.o;have aZ:=Aa aM.o;clear he hu aM;go_wp2_with fail
   go_ret;refine⟨.slice a c cap,rfl,by rw[<-bA.o];exact aT.o,aZ.o,hx.o⟩
theorem Vm:(Tryz.prog.info? 90).map (fun i=>(i.zero,i.size,i.bytes))=some (some (.agg #[Ω,(),()]),3,56):=ah
def R5:List Lv->List (Value × Value)->List Value
 | l :: L,o :: os=> .int .i64 l.pt :: o.1 :: o.2 :: R5 L os
 | _,_=> []
theorem Oi:∀(L:List Lv) (os:List (Value × Value)),os.length=L.length->(R5 L os).length=L.length*3
 | [], [],_=>rfl
 | l :: L,o :: os,h=>by
  have:=Oi L os ay;simp only[R5,List.length_cons];omega
 | [],o :: os,h=>by simp at h
 | l :: L, [],h=>by simp at h
theorem Oj:∀(L:List Lv) (os:List (Value × Value)) (i:Nat) (l:Lv) (o:Value × Value),L[i]?=some l->os[i]?=some o->(R5 L os)[3*i]?=some (.int .i64 l.pt)/\(R5 L os)[3*i+1]?=some o.1/\(R5 L os)[3*i+2]?=some o.2
 | l' :: L,o' :: os,0,l,o,h,k=>by
  simp at h k;subst h k;exact⟨rfl,rfl,rfl⟩
 | l' :: L,o' :: os,i+1,l,o,h,k=>by
  have:=Oj L os i l o ay (by simpa using k);rw[show 3*(i+1)=3*i+3 by omega,show 3*i+3+1=3*i+1+3 by omega,show 3*i+3+2=3*i+2+3 by omega];simpa[R5]using this
 | [],os,i,l,o,h,k=>by simp at h
 | l' :: L, [],i,l,o,h,k=>by simp at k
theorem Tz:∀(L:List Lv) (os:List (Value × Value)) (l:Lv) (o:Value × Value),os.length=L.length->R5 (L ++ [l]) (os ++ [o])=R5 L os ++ [.int .i64 l.pt,o.1,o.2]
 | [], [],l,o,_=>rfl
 | l' :: L,o' :: os,l,o,h=>by
  have:=Tz L os l o ay;simp only[List.cons_append,R5,this]
 | [],o' :: os,l,o,h=>by simp at h
 | l' :: L, [],l,o,h=>by simp at h
def ER(w:World)(v:Value)(L:List Lv):Prop:=∃os:List (Value × Value),os.length=L.length/\Sl w v L.length 3 (R5 L os)/\∀(i:Nat) (l:Lv) (o:Value × Value),L[i]?=some l->os[i]?=some o->Ak w o.1 l.orb/\B6 w o.2 l.reps
theorem ER.ex{w w':World}{v:Value}{L:List Lv}(h:ER w v L)(hx:Ex w w'):ER w' v L:=by
 exact zbW
theorem ER.nil(w:World):ER w (.slice none 0 0) []:=⟨[],rfl,Sl.nil w 3,fun i l o h=>by simp at h⟩
theorem ER.open{w:World}{v:Value}{L:List Lv}(h:ER w v L):∃a cap,v= .slice a L.length cap/\L.length<=cap/\cap<=maxLen/\
  (0<L.length->∃b o,a=some ⟨b,o,none⟩/\∀(i:Nat) (l:Lv),L[i]?=some l->∃u r,w.cell? ⟨b,o+3*i,none⟩=some (.int .i64 l.pt)/\w.cell? ⟨b,o+(3*i+1),none⟩=some u/\w.cell? ⟨b,o+(3*i+2),none⟩=some r/\Ak w u l.orb/\B6 w r l.reps):=by
 obtain⟨os,h1,⟨h2,a,cap,h3,h4,h5,h6⟩,h7⟩:=h;refine⟨a,cap,h3,h4,h5,fun hn=>?_⟩;obtain⟨b,o,h8,h9⟩:=h6 hn;refine⟨b,o,h8,fun i l hl=>?_⟩;have hi:=(List.getElem?_eq_some_iff.1 hl).1;have ho:os[i]?=some (os[i]'ac):=γ _;obtain⟨g1,g2,g3⟩:=Oj L os i l _ hl ho;exact zcr
theorem Mx.cons{mb aA:List Nat}{w w':World}(h:Mx mb aA w w')(q:Nat):Mx (q :: mb) (q :: aA) w w':=
 ⟨h.os,h.tape,h.output,h.size,fun i hi hn=>h.block i hi (fun hm=>hn (ω _ hm)),fun B hB=>by
  rcases ϒ.1 hB with e|e
  .exact .inl (by rw[e];exact Θ ..)
  .rcases h.mb B e with k|k
   .exact .inl (ω _ k)
   .exact .inr k⟩
structure SI(w:World)(mb:List Nat)(v:Value)(l:List Int):Prop where
 sl:Ak w v l
 off:0<l.length->∀B,v.ownBlock=some B->B ∉ mb/\B<w.heap.size
theorem Sl.mx{mb aA:List Nat}{w w':World}(hx:Mx mb aA w w'){v:Value}{n size:Nat}{xs:List Value}(h:Sl w v n size xs)(ho:0<n->∀B,v.ownBlock=some B->B ∉ mb):Sl w' v n size xs:=by
 obtain⟨h1,a,cap,rfl,h3,h4,h5⟩:=h;refine⟨h1,a,cap,rfl,h3,h4,fun hn=>?_⟩;obtain⟨b,o,rfl,h6⟩:=h5 hn;exact⟨b,o,rfl,fun j u hu=>hx.cell (h6 j u hu) (ho hn b rfl)⟩
theorem SI.mx{mb aA:List Nat}{w w':World}{v:Value}{l:List Int}(h:SI w mb v l)(hx:Mx mb aA w w'):SI w' aA v l:=
 ⟨Sl.mx hx h.sl fun hn B e=>(h.off hn B e).1,fun hn B e=>by
  obtain⟨h1,h2⟩:=h.off hn B e;exact⟨fun hb=>by
   rcases hx.mb B hb with h3|h3
   .exact h1 h3
   .omega,Δ h2 hx.size⟩⟩
structure SM(w:World)(mb:List Nat)(v:Value)(rows:List (List Int))(vals:List Value):Prop where
 sl:Sl w v rows.length 1 vals
 off:0<rows.length->∀B,v.ownBlock=some B->B ∉ mb/\B<w.heap.size
 row:∀(i:Nat) (r:List Int) (u:Value),rows[i]?=some r->vals[i]?=some u->SI w mb u r
theorem SM.mx{mb aA:List Nat}{w w':World}{v:Value}{rows:List (List Int)}{vals:List Value}(h:SM w mb v rows vals)(hx:Mx mb aA w w'):SM w' aA v rows vals:=
 ⟨Sl.mx hx h.sl fun hn B e=>(h.off hn B e).1,fun hn B e=>by
  obtain⟨h1,h2⟩:=h.off hn B e;exact⟨fun hb=>by
   rcases hx.mb B hb with h3|h3
   .exact h1 h3
   .omega,Δ h2 hx.size⟩,fun i r u a b=>(h.row i r u a b).mx hx⟩
theorem SM.msl{w:World}{mb:List Nat}{v:Value}{rows:List (List Int)}{vals:List Value}(h:SM w mb v rows vals):B6 w v rows:=⟨vals,h.sl,fun i r u a b=>(h.row i r u a b).sl⟩
structure Yy(w:World)(base q:Nat)(mb:List Nat)(lv:Value)(L:List Lv)(os:List (Value × Value)):Prop where
 own:w.ownsRow base 90 3 lv L.length (R5 L os)
 len:os.length=L.length
 lev:∀(i:Nat) (l:Lv) (o:Value × Value),L[i]?=some l->os[i]?=some o->SI w (q :: mb) o.1 l.orb/\∃vals,SM w (q :: mb) o.2 l.reps vals
 blk:∀B,lv.ownBlock=some B->B∈mb
theorem Yy.ex{w w':World}{base q:Nat}{mb:List Nat}{lv:Value}{L:List Lv}{os:List (Value × Value)}(h:Yy w base q mb lv L os)(hx:Ex w w'):Yy w' base q mb lv L os:=
 ⟨Ag h.own hx,h.len,fun i l o a b=>⟨(h.lev i l o a b).1.mx (Mx.ofEx hx (q :: mb)),by obtain⟨vals,h2⟩:=(h.lev i l o a b).2;exact⟨vals,h2.mx (Mx.ofEx hx (q :: mb))⟩⟩,h.blk⟩
theorem Yy.nil(w:World)(base q:Nat)(mb:List Nat):Yy w base q mb (.slice none 0 0) [] []:=
 ⟨ϋ _ _ _ _,rfl,fun i l o h=>by simp at h,fun B h=>by cases h⟩
theorem Yy.mx{w w':World}{base q:Nat}{mb aA:List Nat}{lv:Value}{L:List Lv}{os:List (Value × Value)}(h:Yy w base q mb lv L os)(hx:Mx mb aA w w')(ho:w'.ownsRow base 90 3 lv L.length (R5 L os))(hb:∀B,lv.ownBlock=some B->B∈aA):Yy w' base q aA lv L os:=
 ⟨ho,h.len,fun i l o a b=>⟨(h.lev i l o a b).1.mx (hx.cons q),by obtain⟨vals,h2⟩:=(h.lev i l o a b).2;exact⟨vals,h2.mx (hx.cons q)⟩⟩,hb⟩
theorem RU{mb:List Nat}{w w1:World}{base:Nat}{e:TypeId}{size:Nat}{v v':Value}{n:Nat}{xs news:List Value}(ha:Bz w w1 base e size v v' n xs news)(hv:∀B,v.ownBlock=some B->B∈mb){cb j:Nat}{u:Value}(hc:cb∈mb):
  Mx mb (v'.ownBlock.toList++mb) w (w1.setCell (cb,j) u):=by
 obtain⟨o,hg⟩:=ha.gr;have hgs:=ha.grow;have aA:(w1.setCell (cb,j) u).heap.size=w1.heap.size:=cd;refine⟨hg.os.trans rfl,hg.tape.trans rfl,hg.output.trans rfl,by rw[aA];omega,fun i hi hn=>?_,fun B hB=>?_⟩
 .rw[Below.heap_setCell _ _ _ _ (fun e=>hn (by have e:i=cb:=e;rw[e];exact hc))];rw[hg.block i aq (fun e=>hn (hv i e.symm))];exact((Ex.refl w).alloc o).block i hi
 .rcases γj.1 hB with h1|h1
  .have h1:v'.ownBlock=some B:=by simpa using h1
   rcases ha.at_ with h2|h2
   .rw[h2]at h1;exact .inl (hv B h1)
   .rw[h2]at h1;injection h1 with h1;exact .inr ac
  .exact .inl h1
theorem FR(w:World)(a b:Addr)(u:Value):(w.setCell a u).frozen? b=w.frozen? b:=ag
structure Mz(w0 wr:World)(q n b ob lb:Nat)(lv:Value)(L:List Lv)(os:List (Value × Value))(ov:Value)(orb:List Int)(rv:Value)(reps:List (List Int))(vals:List Value)(mb:List Nat):Prop where
 oc0:wr.cell? (ob,0)=some (.int .i64 n)
 oc1:wr.cell? (ob,1)=some lv
 of1:wr.frozen? (ob,1)=false
 lc0:wr.cell? (lb,0)=some (.int .i64 b)
 lc1:wr.cell? (lb,1)=some ov
 lc2:wr.cell? (lb,2)=some rv
 lf1:wr.frozen? (lb,1)=false
 lf2:wr.frozen? (lb,2)=false
 ne:ob≠lb
 ch:Yy wr w0.heap.size q mb lv L os
 ovo:wr.ownsRow w0.heap.size 3 1 ov orb.length (Aj orb)
 rvo:wr.ownsRow w0.heap.size 22 1 rv reps.length vals
 rows:∀(i:Nat) (r:List Int) (u:Value),reps[i]?=some r->vals[i]?=some u->SI wr (q :: mb) u r
 a1:AD ov lv
 a2:AD rv lv
 a3:AD ov rv
 nov:∀B,ov.ownBlock=some B->B≠ob/\B≠lb/\B∈mb
 nrv:∀B,rv.ownBlock=some B->B≠ob/\B≠lb/\B∈mb
 nlv:∀B,lv.ownBlock=some B->B≠ob/\B≠lb/\B∈mb
 om:ob∈mb
 ql:q<w0.heap.size
 lm:lb∈mb
 lo:∀B∈mb,w0.heap.size<=B/\B<wr.heap.size
 ex:Ex w0 wr
section
variable {w0 wr:World} {q n b ob lb:Nat} {lv:Value} {L:List Lv} {os:List (Value × Value)} {ov:Value} {orb:List Int} {rv:Value} {reps:List (List Int)} {vals:List Value} {mb:List Nat}
theorem Mz.later(h:Mz w0 wr q n b ob lb lv L os ov orb rv reps vals mb){w':World}(hx:Ex wr w'):Mz w0 w' q n b ob lb lv L os ov orb rv reps vals mb:=
 ⟨hx.cell h.oc0,hx.cell h.oc1,hx.frz h.oc1 h.of1,hx.cell h.lc0,hx.cell h.lc1,hx.cell h.lc2,hx.frz h.lc1 h.lf1,hx.frz h.lc2 h.lf2,h.ne,h.ch.ex hx,Ag h.ovo hx,Ag h.rvo hx,fun i r u a c=>(h.rows i r u a c).mx (Mx.ofEx hx (q :: mb)),h.a1,h.a2,h.a3,h.nov,h.nrv,h.nlv,h.om,h.ql,h.lm,fun B hB=>⟨(h.lo B hB).1,Δ (h.lo B hB).2 hx.size⟩,h.ex.trans hx⟩
theorem zcd{P:Prop}(h:P:=by
 rw[World.cell?_setCell_other _ _ _ _ (by intro e;injection e with e;exact h.ne e.symm)];exact k):P:=h
theorem zcg{P:Prop}(h:P:=by
 rcases List.mem_append.1 hB with h1|h1
 .exact ha.own.lt B (by simpa using h1)
 .exact za8):P:=h
theorem Mz.appOrb(h:Mz w0 wr q n b ob lb lv L os ov orb rv reps vals mb){w1:World}{ov':Value}{x:Int}(ha:Bz wr w1 w0.heap.size 3 1 ov ov' orb.length (Aj orb) [.int .i64 x]):
  ∃aH,Mz w0 (w1.setCell (lb,1) ov') q n b ob lb lv L os ov' (orb ++ [x]) rv reps vals aH/\Mx mb aH wr (w1.setCell (lb,1) ov'):=by
 have aF:=RU (j:=1) (u:=ov') ha (fun B e=>(h.nov B e).2.2) h.lm;have aK:(w1.setCell (lb,1) ov').heap.size=w1.heap.size:=cd;have hgs:=ha.grow;have aB:some ob≠ov.ownBlock:=fun e=>(h.nov ob e.symm).1 rfl;have aA:some lb≠ov.ownBlock:=fun e=>(h.nov lb e.symm).2.1 rfl;have obl:=(h.lo ob h.om).2;have lbl:=(h.lo lb h.lm).2;have aG:∀B,ov'.ownBlock=some B->B≠ob/\B≠lb:=fun B e=>by
  rcases ha.at_ with h1|h1
  .rw[h1]at e;exact⟨(h.nov B e).1,(h.nov B e).2.1⟩
  .rw[h1]at e;injection e with e;omega
 have aC:∀ {j:Nat} {v:Value},w1.cell? (ob,j)=some v->(w1.setCell (lb,1) ov').cell? (ob,j)=some v:=fun k=>by
  exact zcd
 have aD:∀ {j:Nat} {v:Value},1≠j->w1.cell? (lb,j)=some v->(w1.setCell (lb,1) ov').cell? (lb,j)=some v:=fun hj k=>by
  rw[Af hj];exact k
 have aE:∀ {e:TypeId} {size:Nat} {v:Value} {m:Nat} {xs:List Value},wr.ownsRow w0.heap.size e size v m xs->AD v ov->(∀B,v.ownBlock=some B->B≠lb)->(w1.setCell (lb,1) ov').ownsRow w0.heap.size e size v m xs/\AD v ov':=fun k hk hb=>
  ⟨Ae (ha.row k hk).1 (fun e=>hb _ e rfl) _,(ha.row k hk).2⟩
 have aJ:=aE h.ch.own h.a1.symm (fun B e=>(h.nlv B e).2.1);have aI:=aE h.rvo h.a3.symm (fun B e=>(h.nrv B e).2.1);refine⟨ov'.ownBlock.toList++mb,⟨aC (ha.cell h.oc0 aB),aC (ha.cell h.oc1 aB),by rw[FR];exact ha.frz h.oc1 h.of1 aB,aD ae (ha.cell h.lc0 aA),?_,aD ae (ha.cell h.lc2 aA),by rw[FR];exact ha.frz h.lc1 h.lf1 aA,by rw[FR];exact ha.frz h.lc2 h.lf2 aA,h.ne,h.ch.mx aF aJ.1 (fun B e=>Ϝ _ (h.nlv B e).2.2),?_,aI.1,fun i r u a c=>(h.rows i r u a c).mx (aF.cons q),aJ.2.symm,h.a2,aI.2.symm,fun B e=>⟨(aG B e).1,(aG B e).2,δl _ (by rw[e];simp)⟩,fun B e=>⟨(h.nrv B e).1,(h.nrv B e).2.1,Ϝ _ (h.nrv B e).2.2⟩,fun B e=>⟨(h.nlv B e).1,(h.nlv B e).2.1,Ϝ _ (h.nlv B e).2.2⟩,Ϝ _ h.om,h.ql,Ϝ _ h.lm,fun B hB=>?_,aF.ex h.ex (fun B hB=>(h.lo B hB).1)⟩,aF⟩
 .exact φ _ _ _ (ha.cell h.lc1 aA)
 .have:=ha.own;rw[ν];exact Ae (by simpa[Aj]using this) (fun e=>(aG _ e).2 rfl) _
 .rw[aK];exact zcg
theorem Mz.appRep(h:Mz w0 wr q n b ob lb lv L os ov orb rv reps vals mb){w1:World}{rv' z:Value}{r:List Int}(hz:SI wr (q :: mb) z r)(ha:Bz wr w1 w0.heap.size 22 1 rv rv' reps.length vals [z]):
  ∃aH,Mz w0 (w1.setCell (lb,2) rv') q n b ob lb lv L os ov orb rv' (reps ++ [r]) (vals ++ [z]) aH/\Mx mb aH wr (w1.setCell (lb,2) rv'):=by
 have aF:=RU (j:=2) (u:=rv') ha (fun B e=>(h.nrv B e).2.2) h.lm;have aM:(w1.setCell (lb,2) rv').heap.size=w1.heap.size:=cd;have hgs:=ha.grow;have aB:some ob≠rv.ownBlock:=fun e=>(h.nrv ob e.symm).1 rfl;have aA:some lb≠rv.ownBlock:=fun e=>(h.nrv lb e.symm).2.1 rfl;have obl:=(h.lo ob h.om).2;have lbl:=(h.lo lb h.lm).2;have aG:∀B,rv'.ownBlock=some B->B≠ob/\B≠lb:=fun B e=>by
  rcases ha.at_ with h1|h1
  .rw[h1]at e;exact⟨(h.nrv B e).1,(h.nrv B e).2.1⟩
  .rw[h1]at e;injection e with e;omega
 have aC:∀ {j:Nat} {v:Value},w1.cell? (ob,j)=some v->(w1.setCell (lb,2) rv').cell? (ob,j)=some v:=fun k=>by
  exact zcd
 have aD:∀ {j:Nat} {v:Value},2≠j->w1.cell? (lb,j)=some v->(w1.setCell (lb,2) rv').cell? (lb,j)=some v:=fun hj k=>by
  rw[Af hj];exact k
 have aE:∀ {e:TypeId} {size:Nat} {v:Value} {m:Nat} {xs:List Value},wr.ownsRow w0.heap.size e size v m xs->AD v rv->(∀B,v.ownBlock=some B->B≠lb)->(w1.setCell (lb,2) rv').ownsRow w0.heap.size e size v m xs/\AD v rv':=fun k hk hb=>
  ⟨Ae (ha.row k hk).1 (fun e=>hb _ e rfl) _,(ha.row k hk).2⟩
 have aK:=aE h.ch.own h.a2.symm (fun B e=>(h.nlv B e).2.1);have aI:=aE h.ovo h.a3 (fun B e=>(h.nov B e).2.1);have aL:vals.length=reps.length:=by have:=h.rvo.1;omega
 refine⟨rv'.ownBlock.toList++mb,⟨aC (ha.cell h.oc0 aB),aC (ha.cell h.oc1 aB),by rw[FR];exact ha.frz h.oc1 h.of1 aB,aD ae (ha.cell h.lc0 aA),aD ae (ha.cell h.lc1 aA),?_,by rw[FR];exact ha.frz h.lc1 h.lf1 aA,by rw[FR];exact ha.frz h.lc2 h.lf2 aA,h.ne,h.ch.mx aF aK.1 (fun B e=>Ϝ _ (h.nlv B e).2.2),aI.1,?_,fun i r' u a c=>?_,h.a1,aK.2.symm,aI.2,fun B e=>⟨(h.nov B e).1,(h.nov B e).2.1,Ϝ _ (h.nov B e).2.2⟩,fun B e=>⟨(aG B e).1,(aG B e).2,δl _ (by rw[e];simp)⟩,fun B e=>⟨(h.nlv B e).1,(h.nlv B e).2.1,Ϝ _ (h.nlv B e).2.2⟩,Ϝ _ h.om,h.ql,Ϝ _ h.lm,fun B hB=>?_,aF.ex h.ex (fun B hB=>(h.lo B hB).1)⟩,aF⟩
 .exact φ _ _ _ (ha.cell h.lc2 aA)
 .have:=ha.own;rw[ν];exact Ae this (fun e=>(aG _ e).2 rfl) _
 .by_cases hi:i<reps.length
  .rw[ο hi]at a;rw[ο ac]at c;exact(h.rows i r' u a c).mx (aF.cons q)
  .rw[τ ac]at a;rw[τ ac]at c;have aJ:i-reps.length=0:=by
    exact zc8
   rw[aJ]at a;rw[aL,aJ]at c;simp at a c;subst a c;exact hz.mx (aF.cons q)
 .rw[aM];exact zcg
end
structure ChS(w0 wr:World)(q n ob:Nat)(lv:Value)(L:List Lv)(os:List (Value × Value))(mb:List Nat):Prop where
 oc0:wr.cell? (ob,0)=some (.int .i64 n)
 oc1:wr.cell? (ob,1)=some lv
 of1:wr.frozen? (ob,1)=false
 ch:Yy wr w0.heap.size q mb lv L os
 nlv:∀B,lv.ownBlock=some B->B≠ob
 om:ob∈mb
 ql:q<w0.heap.size
 lo:∀B∈mb,w0.heap.size<=B/\B<wr.heap.size
 ex:Ex w0 wr
theorem ChS.begin_{w0 wr:World}{q n b ob:Nat}{lv:Value}{L:List Lv}{os:List (Value × Value)}{mb:List Nat}(h:ChS w0 wr q n ob lv L os mb):
  Mz w0 (wr.alloc (.cells #[b,(),()] 90)) q n b ob wr.heap.size lv L os (.slice none 0 0) [] (.slice none 0 0) [] [] (wr.heap.size :: mb)/\Mx mb (wr.heap.size :: mb) wr (wr.alloc (.cells #[b,(),()] 90)):=by
 have hx:Ex wr (wr.alloc (.cells #[b,(),()] 90)):=(Ex.refl _).alloc _;have aB:(wr.alloc (.cells #[b,(),()] 90)).heap.size=wr.heap.size+1:=ag;have aA:Mx mb (wr.heap.size :: mb) wr (wr.alloc (.cells #[b,(),()] 90)):=by
  refine⟨hx.os,hx.tape,hx.output,hx.size,fun i hi _=>hx.block i hi,fun B hB=>?_⟩;rcases ϒ.1 hB with e|e
  .exact .inr ac
  .exact .inl e
 have hob:=(h.lo ob h.om).2;refine⟨⟨hx.cell h.oc0,hx.cell h.oc1,hx.frz h.oc1 h.of1,ag,ag,ag,ag,ag,ac,h.ch.mx aA (Ag h.ch.own hx) (fun B e=>ω _ (h.ch.blk B e)),ϋ _ _ _ _,ϋ _ _ _ _,fun i r u a=>by simp at a,AD.nil _,AD.nil _,AD.nil _,fun B e=>(by cases e),fun B e=>(by cases e),fun B e=>⟨h.nlv B e,by have:=(h.lo B (h.ch.blk B e)).2;omega,ω _ (h.ch.blk B e)⟩,ω _ h.om,h.ql,Θ ..,fun B hB=>?_,h.ex.trans hx⟩,aA⟩;rw[aB];rcases ϒ.1 hB with e|e
 .subst e;have:=h.ex.size;omega
 .have:=h.lo B e;omega
theorem Mz.drop{w0 wr:World}{q n b ob lb:Nat}{lv:Value}{L:List Lv}{os:List (Value × Value)}{ov:Value}{orb:List Int}{rv:Value}{reps:List (List Int)}{vals:List Value}{mb:List Nat}(h:Mz w0 wr q n b ob lb lv L os ov orb rv reps vals mb):ChS w0 wr q n ob lv L os mb:=
 ⟨h.oc0,h.oc1,h.of1,h.ch,fun B e=>(h.nlv B e).1,h.om,h.ql,h.lo,h.ex⟩
theorem fd{P:Prop}(h:P:=by simpa using e):P:=h
theorem Mz.keep{w0 wr:World}{q n b ob lb:Nat}{lv:Value}{L:List Lv}{os:List (Value × Value)}{ov:Value}{orb:List Int}{rv:Value}{reps:List (List Int)}{vals:List Value}{mb:List Nat}(h:Mz w0 wr q n b ob lb lv L os ov orb rv reps vals mb){w1:World}{lv':Value}
  (ha:Bz wr w1 w0.heap.size 90 3 lv lv' L.length (R5 L os) [.int .i64 b,ov,rv]):
  ∃mb',ChS w0 (w1.setCell (ob,1) lv') q n ob lv' (L ++ [⟨b,orb,reps⟩]) (os ++ [(ov,rv)]) mb':=by
 have aA:Mx mb (ob :: lv.ownBlock.toList) wr wr:=⟨rfl,rfl,rfl,ζ _,fun _ _ _=>rfl,fun B hB=>by
  rcases ϒ.1 hB with e|e
  .subst e;exact .inl h.om
  .exact .inl (h.nlv B fd).2.2⟩
 have aE:=RU (mb:=ob :: lv.ownBlock.toList) (j:=1) (u:=lv') (cb:=ob) ha (fun B e=>ω _ (by rw[e];simp)) (Θ ..);have aH:(w1.setCell (ob,1) lv').heap.size=w1.heap.size:=by simp[ιk]
 have hgs:=ha.grow;have aB:some ob≠lv.ownBlock:=fun e=>(h.nlv ob e.symm).1 rfl;have obl:=(h.lo ob h.om).2;have aG:∀B,lv'.ownBlock=some B->B≠ob:=fun B e=>by
  rcases ha.at_ with h1|h1
  .rw[h1]at e;exact(h.nlv B e).1
  .rw[h1]at e;injection e with e;omega
 have aD:∀B,ov.ownBlock=some B->B ∉ ob :: lv.ownBlock.toList:=fun B e hm=>by
  rcases ϒ.1 hm with e2|e2
  .exact(h.nov B e).1 e2
  .have e2:lv.ownBlock=some B:=by simpa using e2
   rcases h.a1 with k|k
   .rw[k]at e;cases e
   .exact k (by rw[e,e2])
 have aC:∀B,rv.ownBlock=some B->B ∉ ob :: lv.ownBlock.toList:=fun B e hm=>by
  rcases ϒ.1 hm with e2|e2
  .exact(h.nrv B e).1 e2
  .have e2:lv.ownBlock=some B:=by simpa using e2
   rcases h.a2 with k|k
   .rw[k]at e;cases e
   .exact k (by rw[e,e2])
 have aJ:SI wr (q :: ob :: lv.ownBlock.toList) ov orb:=⟨Sl.own h.ovo,fun _ B e=>⟨fun hm=>by
  rcases ϒ.1 hm with e2|e2
  .have:=(h.ovo.lt B e).1;have:=h.ql;omega
  .exact aD B e e2,(h.ovo.lt B e).2⟩⟩
 have aI:SM wr (q :: ob :: lv.ownBlock.toList) rv reps vals:=⟨Sl.own h.rvo,fun _ B e=>⟨fun hm=>by
  rcases ϒ.1 hm with e2|e2
  .have:=(h.rvo.lt B e).1;have:=h.ql;omega
  .exact aC B e e2,(h.rvo.lt B e).2⟩,fun i r u a c=>(h.rows i r u a c).mx (aA.cons q)⟩
 refine⟨lv'.ownBlock.toList++(ob :: lv.ownBlock.toList),?_,?_,by rw[FR];exact ha.frz h.oc1 h.of1 aB,⟨?_,by simp[h.ch.len],fun i l o a c=>?_,fun B e=>δl _ (by rw[e];simp)⟩,aG,Ϝ _ (Θ ..),h.ql,fun B hB=>?_,aE.ex h.ex (fun B hB=>?_)⟩
 .rw[Af ae];exact ha.cell h.oc0 aB
 .exact φ _ _ _ (ha.cell h.oc1 aB)
 .rw[Tz L os ⟨b,orb,reps⟩ (ov,rv) h.ch.len,ν];exact Ae ha.own (fun e=>aG _ e rfl) _
 .by_cases hi:i<L.length
  .rw[ο hi]at a;rw[ο (by have:=h.ch.len;omega)]at c;obtain⟨k1,v2,k2⟩:=h.ch.lev i l o a c;exact⟨(k1.mx (aA.cons q)).mx (aE.cons q),v2,(k2.mx (aA.cons q)).mx (aE.cons q)⟩
  .rw[τ ac]at a;rw[τ (by have:=h.ch.len;omega)]at c;have aF:i-L.length=0:=by
    exact zc8
   rw[aF]at a;rw[h.ch.len,aF]at c;simp at a c;subst a c;exact⟨aJ.mx (aE.cons q),vals,aI.mx (aE.cons q)⟩
 .rw[aH];rcases γj.1 hB with h1|h1
  .exact ha.own.lt B dd
  .rcases ϒ.1 h1 with e|e
   .subst e;exact⟨(h.lo B h.om).1,ac⟩
   .have:=h.lo B (h.nlv B fd).2.2;exact⟨this.1,ac⟩
 .rcases ϒ.1 hB with e|e
  .subst e;exact(h.lo B h.om).1
  .exact(h.lo B (h.nlv B fd).2.2).1
theorem ChS.o{w0 wr:World}{q n ob:Nat}{lv:Value}{L:List Lv}{os:List (Value × Value)}{mb:List Nat}(h:ChS w0 wr q n ob lv L os mb)(u v:Value):ER ((wr.setCell (q,0) u).setCell (q,1) v) lv L:=by
 have aA:lv.ownBlock≠some q:=fun e=>by
  have:=(h.lo q (h.ch.blk q e)).1;have:=h.ql;omega
 have hM:Mx (q :: mb) (q :: mb) wr ((wr.setCell (q,0) u).setCell (q,1) v):=by
  refine⟨rfl,rfl,rfl,by simp[ιk],fun i hi hn=>?_,fun B hB=> .inl hB⟩;have aB:i≠q:=fun e=>hn (by rw[e];exact Θ ..);rw[Below.heap_setCell _ _ _ _ aB,Below.heap_setCell _ _ _ _ aB]
 refine⟨os,h.ch.len,Sl.own (Ae (Ae h.ch.own aA u) aA v),fun i l o a c=>?_⟩;obtain⟨k1,vals,k2⟩:=h.ch.lev i l o a c;exact⟨(k1.mx hM).sl,(k2.mx hM).msl⟩
open Classical in
noncomputable def Bf (S:List (Nat->Nat)) (b m:Nat):List Nat:=(ξ m).filter fun x=>decide (∃f,Gn S f/\AU b f/\f b=x)
open Classical in
theorem M7 (S:List (Nat->Nat)) (b m:Nat):((∃f,Gn S f/\AU b f/\f b=m)->Bf S b (m+1)=Bf S b m ++ [m])/\(¬(∃f,Gn S f/\AU b f/\f b=m)->Bf S b (m+1)=Bf S b m):=by
 unfold Bf;rw[γg,ιe];constructor
 .intro h;simp[ιh,h]
 .intro h;have h2:decide (∃f,Gn S f/\AU b f/\f b=m)=false:=decide_eq_false h;simp only[ιh,h2,ζp]
theorem Fn(S:List (Nat->Nat))(b m:Nat):(Bf S b m).length<=m:=by
 unfold Bf;exact μ (δg _ _) ag
noncomputable def Eb(n:Nat)(S:List (Nat->Nat))(b m:Nat):List (List Int):=(Bf S b m).map fun x=>li n (De n S b x)
noncomputable def FM(n:Nat)(S:List (Nat->Nat))(b:Nat):Lv:=⟨b,DN (Bf S b n),Eb n S b n⟩
noncomputable def Ck(n:Nat)(S:List (Nat->Nat))(m:Nat):List Lv:=((ξ m).map (FM n S)).filter fun l=>decide (1<l.orb.length)
theorem Nu(n:Nat)(S:List (Nat->Nat))(m:Nat):Ck n S (m+1)=Ck n S m++if 1<(FM n S m).orb.length then [FM n S m] else []:=by
 unfold Ck;rw[γg,δe,ιe]
 congr 1
 by_cases h:1<(FM n S m).orb.length <;> simp[ιh,h]
theorem QU(n:Nat)(S:List (Nat->Nat))(m:Nat):(Ck n S m).length<=m:=by
 unfold Ck;refine μ (δg _ _) ag
section
variable {w0 wr:World} {q n b ob lb:Nat} {lv:Value} {L:List Lv} {os:List (Value × Value)} {ov:Value} {orb:List Int} {rv:Value} {reps:List (List Int)} {vals:List Value} {mb:List Nat}
theorem Mz.atOrb(h:Mz w0 wr q n b ob lb lv L os ov orb rv reps vals mb){w1:World}{aA:Value}{x:Int}(ha:Bz wr w1 w0.heap.size 3 1 ov aA orb.length (Aj orb) [.int .i64 x]):w1.cell? (lb,1)=some ov/\w1.frozen? (lb,1)=false:=
 ⟨ha.cell h.lc1 (fun e=>(h.nov lb e.symm).2.1 rfl),ha.frz h.lc1 h.lf1 (fun e=>(h.nov lb e.symm).2.1 rfl)⟩
theorem Mz.atRep(h:Mz w0 wr q n b ob lb lv L os ov orb rv reps vals mb){w1:World}{aA z:Value}(ha:Bz wr w1 w0.heap.size 22 1 rv aA reps.length vals [z]):w1.cell? (lb,2)=some rv/\w1.frozen? (lb,2)=false:=
 ⟨ha.cell h.lc2 (fun e=>(h.nrv lb e.symm).2.1 rfl),ha.frz h.lc2 h.lf2 (fun e=>(h.nrv lb e.symm).2.1 rfl)⟩
theorem Mz.atLev(h:Mz w0 wr q n b ob lb lv L os ov orb rv reps vals mb){w1:World}{lv':Value}{news:List Value}(ha:Bz wr w1 w0.heap.size 90 3 lv lv' L.length (R5 L os) news):w1.cell? (ob,1)=some lv/\w1.frozen? (ob,1)=false:=
 ⟨ha.cell h.oc1 (fun e=>(h.nlv ob e.symm).1 rfl),ha.frz h.oc1 h.of1 (fun e=>(h.nlv ob e.symm).1 rfl)⟩
end
theorem VB(w:World){base n tb rb gb:Nat}{rr:Nat->Nat}{bE:List Nat}{t:Tw}{S:List (Nat->Nat)}{k0:Nat}(bZ:VE w base n tb rb gb rr bE t)(hB:IR n S t k0)(bJ:S.length<=k0)(hS:∀s∈S,Bo n s)(aO:1<=n)(hn:n<=64):
  Calls Tryz.prog 175 #[(tb,0)] w fun r w'=>∃lv,r= .returned (.agg #[n,lv])/\ER w' lv (Ck n S n)/\Ex w w':=by
 obtain⟨gv,V,hM⟩:=bZ;obtain⟨HM,HB,HS,aL,bD⟩:=On hM hB hS (fun b (hb:b<n) x=>hB.orb aO hS bJ hb x) (fun b x (hb:b<n) r (hr:t.R b x=some r)=>hB.canon aO hS bJ hb hr);have hn0:n<=64:=hn;clear hM hB hS;go_enter Tryz.func175,Tryz.ntmps175
 have ea:Ex w (w.alloc (.cells #[Ω,()] 43)):=(Ex.refl _).alloc _;have eb:Ex (w.alloc (.cells #[Ω,()] 43)) ((w.alloc (.cells #[Ω,()] 43)).alloc (.cells #[n,()] 43)):=(Ex.refl _).alloc _;have c0:=ea.cell HM.o.c0;have cF:=eb.cell c0;go_wp2_with fail
 obtain⟨q,hq⟩:=nA w.heap.size;have bB:=Aa (HM.o.ex ea);have aJ:(w.alloc (.cells #[Ω,()] 43)).heap.size=q+1:=by simp[hq]
 have q0:(w.alloc (.cells #[Ω,()] 43)).cell? (q,0)=some (.int .i64 0):=by rw[<-hq];simp
 have q1:(w.alloc (.cells #[Ω,()] 43)).cell? (q,1)=some (.slice none 0 0):=by rw[<-hq];simp
 have aS:(w.alloc (.cells #[Ω,()] 43)).frozen? (q,0)=false:=by rw[<-hq];simp
 have aR:(w.alloc (.cells #[Ω,()] 43)).frozen? (q,1)=false:=by rw[<-hq];simp
 try simp only[hq]
 generalize w.alloc (.cells #[Ω,()] 43)=wR at *;have aN:=Aa (show ChS wR (wR.alloc (.cells #[n,()] 43)) q n (q+1) (.slice none 0 0) [] [] [q+1] from⟨by rw[<-aJ];simp,by rw[<-aJ];simp,by rw[<-aJ];simp,Yy.nil _ _ _ _,fun B e=>(by cases e),ag,ac,fun B hB=>by
  rw[List.mem_singleton.1 hB,<-aJ];simp,eb⟩)
 obtain⟨EA,Q0,Q1,cH,cG,bA⟩:=Ty ea q0 q1 aS aR (show w.heap.size<=q from ac);clear ea eb c0 cF q0 q1 aS aR aJ;generalize wR.alloc (.cells #[n,()] 43)=wA at *;clear hq
 go_loopw [17] (fun b' wr=>∃(b:Nat) (lv:Value) (os:List (Value × Value)) (mb:List Nat),b<=n/\b'= .int .i64 b/\Hia (ChS wR wr q n (q+1) lv (Ck n S b) os mb)) (fun b' _=>n-(intOf b').toNat)
 case atStart=>exact⟨0,_, [],_,ac,rfl,aN⟩
 case round=>
  clear aN;obtain⟨b,lv,os,mb,hb,rfl,aE⟩:=hrel;have cO:=Aa (QU n S b);by_cases hbn:b<n
  .have i1:(0:Int)<=(b:Int):=by omega
   have i2:(b:Int)<(n:Int):=ac;obtain⟨aH,cC⟩:=aE.o.begin_ (b:=b);have bC:=Aa aH;have bP:=Aa (bB.o.ex aH.ex);have c1:=bP.o.c1;have c3:=bP.o.ro b hbn;clear aH cC aE;go_wp2_with fail
   obtain⟨lb,aX⟩:=nA wr.heap.size;rw[aX]at bC
   try simp only[aX]
   generalize wr.alloc (.cells #[b,(),()] 90)=wb at *;clear aX c1 c3
   go_loopw [30] (fun x' wr=>∃(x:Nat) (ov rv:Value) (vals:List Value) (mb:List Nat),x<=n/\x'= .int .i64 x/\Hia (Mz wR wr q n b (q+1) lb lv (Ck n S b) os ov (DN (Bf S b x)) rv (Eb n S b x) vals mb)) (fun x' _=>n-(intOf x').toNat)
   case atStart=>exact⟨0,_,_,_,_,ac,rfl,bC⟩
   case round=>
    clear bC;obtain⟨x,ov,rv,vals,mb,hx,rfl,aG⟩:=hrel;by_cases hxn:x<n
    .have i3:(0:Int)<=(x:Int):=by omega
     have i4:(x:Int)<(n:Int):=ac;have bO:=Aa (bB.o.ex aG.o.ex);have d3:=(bO.o.row b hbn).cell hxn;have aA:=HM.o.rep b x hbn hxn
     cases hR:t.R b x with
     | none=>
      rw[hR]at aA;have aA:V b x= .slice none 0 0:=aA;rw[aA]at d3;have aM:=Aa ((M7 S b x).2 (fun h=>by
       obtain⟨r,hr⟩:=(aL.o b hbn x).2 h;rw[hR]at hr;cases hr))
      have aP:Hia (Eb n S b (x+1)=Eb n S b x):=Aa (by unfold Eb;rw[aM.o]);clear aA hR;go_wp2_with fail
      go_roundw
      case rel=>exact⟨x+1,ov,rv,vals,mb,ac,by go_num,by rw[aM.o,aP.o];exact aG⟩
      case measure=>exact Ωm
     | some r=>
      rw[hR]at aA;have aA:CC _ bE n (V b x) r:=aA;obtain⟨vb,vo,vc,hV,_,_,bG,_⟩:=aA.at_;obtain⟨_,_,bI,cB,cA⟩:=HB.o.good.rep _ _ _ hR;rw[hV]at d3;have aM:=Aa ((M7 S b x).1 ((aL.o b hbn x).1 ⟨r,hR⟩));obtain⟨cM,aP,bQ,aC⟩:=Of (Ka HS.o (bD.o b x hbn r hR)) (show Eb n S b (x+1)=Eb n S b x ++ [li n (De n S b x)] from by unfold Eb;rw[aM.o,δe];rfl) (show DN (Bf S b (x+1))=DN (Bf S b x) ++ [(x:Int)] from by rw[aM.o,TK]) aG.o;obtain⟨oa,oc,aV⟩:=Ad aC.o.ovo;subst aV;have c1:=aC.o.lc1;have hol:(DN (Bf S b x)).length<=64:=by rw[Cz];have:=Fn S b x;omega
      obtain⟨aY,cK,cL,cI⟩:=Of aC.o.ex.size (show Ak wR (.slice (some (vb,vo)) n vc) (li n r) from by rw[<-hV];exact aA.sl.ex EA.o) bI bG;clear aA hV bI cB cA aG bO hR bG;go_upto_region 11 with (at_builtin;refine Al _ rfl _ _ 22 rfl wR.heap.size 3 (.int .i64 0) 1 8 Tryz.underlying22 Az rfl ae _ (DN (Bf S b x)).length _ rfl aC.o.ovo [.int .i64 (x:Int)] 3 _ rfl ag rfl aj ai ac aY.o ?_)
      intro ov' w4 aB;obtain⟨bT,bS,aU⟩:=Ad aB.own;subst aU;obtain⟨e1,e2⟩:=aC.o.atOrb aB;obtain⟨bU,bH,_⟩:=aC.o.appOrb aB;have aF:=Aa bH;clear aB bH d3 c1;go_upto_region 11 with fail
      obtain⟨wo,bF⟩:=nA (w4.setCell (lb,1) (.slice bT ((DN (Bf S b x)).length+1) bS));rw[bF]at aF ⊢;clear bF e1 e2;obtain⟨ra,rc,aT⟩:=Ad aF.o.rvo;subst aT;have c2:=aF.o.lc2;have E0:Ex wo wo.drew:=(Ex.refl wo).drew;have hrl:(Eb n S b x).length<=64:=by unfold Eb;rw[Ϛ];have:=Fn S b x;omega
      have cP:=Aa (fun w5 (h5:Ex wo w5)=>PW w5 (bB.o.ex (aF.o.ex.trans h5)) HB.o.good aO hn _ r b hbn (cK.o.ex (aF.o.ex.trans h5)) cL.o)
      go_region_law ((first|(go_simp;go_at_call 211;(with_reducible refine(cP.o _ E0).mono ?_);rintro e w5⟨z,rfl,hz,bL,bX⟩;have E5:=E0.trans bX;have bN:=E5.cell c2;obtain⟨za,zc,bV,_,_,_⟩:=Fd hz;subst bV;have cE:=((Ex.refl w5).alloc (.cells #[(za,n,zc)] 22)).cell bN;have HZ:=Aa hz;have cN:=Aa bL;clear hz bL;have aK:=Aa (aF.o.later E5))|(refine Cq bp _ _ _ bp wR.heap.size 22 (.slice none 0 0) 1 24 Tryz.underlying37 BZ rfl ae (.slice ra (Eb n S b x).length rc) (Eb n S b x).length vals bp (Ag aK.o.rvo ((Ex.refl w5).alloc _)) _ 1 [.slice za n zc] bp (Sl.own (Ee w5 (.slice za n zc) 22)) aj ai ac (μ aK.o.ex.size ag) ?_;intro v6 w6 aD bK bM;have bR:=Aa (show Bz w5 w6 wR.heap.size 22 1 (.slice ra (Eb n S b x).length rc) v6 (Eb n S b x).length vals [.slice za n zc] from⟨aD,⟨_,bK⟩,by simpa using bM,aK.o.rvo⟩);obtain⟨k1,k2⟩:=aK.o.atRep bR.o;obtain⟨va,vc6,bY⟩:=Ad aD;subst bY;clear aD bK bM)))
      all_goals
       have cJ:=Aa (show SI w5 (q :: bU) (.slice za n zc) (li n (De n S b x)) from⟨by rw[cM.o];exact HZ.o,fun _ B e=>by
        obtain⟨b',o',bW,cD,_⟩:=Ft HZ.o aO;subst bW;injection e with e;have e:b'=B:=e;subst e;refine⟨fun hm=>?_,cD⟩;have hl:b'=q∨wR.heap.size<=b'/\b'<wo.heap.size:=by
         rcases ϒ.1 hm with e|e
         .exact .inl e
         .exact .inr (aF.o.lo b' e)
        have hqw:=bA.o;have hql:=aF.o.ql;have hws:=aF.o.ex.size;have hea:=EA.o.size;rcases cN.o with h1|⟨g,cap',h1,h2⟩
        .injection h1 with h1 _ _;injection h1 with h1;injection h1 with h1;have:=cI.o;omega
        .injection h1 with h1 _ _;injection h1 with h1;injection h1 with h1;have h2:wo.heap.size<=g:=h2;omega⟩)
       have aZ:=Aa (aK.o.appRep cJ.o bR.o);clear k1 k2 c2 bN cE;go_wp2_with fail
       go_roundw
       case rel=>
        obtain⟨aI,h1⟩:=aZ.o
        first
                | exact⟨x+1,_,_,_,aI,ac,by go_num,by rw[bQ.o,aP.o];exact Aa h1.1⟩
                | ((repeat apply Exists.intro);exact⟨⟨x+1,_,_,_,aI,ac,by go_num,by rw[bQ.o,aP.o];exact Aa h1.1⟩,rfl⟩)
       case measure=>exact Ωm
    .obtain rfl:x=n:=by omega
     have aC:=Aa aG.o;obtain⟨oa,oc,aV⟩:=Ad aC.o.ovo;subst aV;have c1:=aC.o.lc1;have hcl:(Ck x S b).length<=64:=by have:=cO.o;omega
     have aY:=Aa aC.o.ex.size;by_cases h1:1<(DN (Bf S b x)).length
     .have aQ:Hia (Ck x S (b+1)=Ck x S b ++ [⟨b,DN (Bf S b x),Eb x S b x⟩]):=Aa (by
       rw[Nu,if_pos (show 1<(FM x S b).orb.length from h1)];rfl)
      have b1:decide (1<((DN (Bf S b x)).length:Int))=true:=aq;have b2:decide (1<(DN (Bf S b x)).length)=true:=dd;obtain⟨la,lc,aH⟩:=Ad aC.o.ch.own;obtain⟨ra,rc,aT⟩:=Ad aC.o.rvo;subst aH aT;have l0:=aC.o.lc0;have l2:=aC.o.lc2;have o1:=aC.o.oc1;clear h1 aG;go_wp2_with (at_builtin;refine Al _ rfl _ _ 41 rfl wR.heap.size 90 (.agg #[Ω,(),()]) 3 56 Tryz.underlying41 Vm rfl ae _ (Ck x S b).length _ rfl aC.o.ch.own [.int .i64 b,.slice oa (DN (Bf S b x)).length oc,.slice ra (Eb x S b x).length rc] 90 _ rfl ag rfl aj ai ac aY.o ?_)
      intro lv2 w4 aB;obtain⟨la2,lc2,aW⟩:=Ad aB.own;subst aW;obtain⟨e1,e2⟩:=aC.o.atLev aB;have HK:=Aa (aC.o.keep aB);clear aB l0 l2 o1 c1;go_wp2_with fail
      go_roundw
      case rel=>
       obtain⟨aI,h1⟩:=HK.o
       first
              | exact⟨b+1,_,_,aI,ac,by go_num,by rw[aQ.o];exact Aa h1⟩
              | ((repeat apply Exists.intro);exact⟨⟨b+1,_,_,aI,ac,by go_num,by rw[aQ.o];exact Aa h1⟩,rfl⟩)
      case measure=>exact Ωm
     .have aQ:Hia (Ck x S (b+1)=Ck x S b):=Aa (by
       rw[Nu,if_neg (show ¬1<(FM x S b).orb.length from h1),ζp])
      have b1:decide (1<((DN (Bf S b x)).length:Int))=false:=aq;have b2:decide (1<(DN (Bf S b x)).length)=false:=dd;have HK:=Aa aG.o.drop;clear h1 aG;go_wp2_with fail
      go_roundw
      case rel=>exact⟨b+1,lv,os,mb,ac,by go_num,by rw[aQ.o];exact HK⟩
      case measure=>exact Ωm
  .obtain rfl:b=n:=by omega
   have o0:=aE.o.oc0;have o1:=aE.o.oc1;obtain⟨la,lc,aH⟩:=Ad aE.o.ch.own;subst aH;have q0:=aE.o.ex.cell Q0.o;have q1:=aE.o.ex.cell Q1.o;have aS:=aE.o.ex.frz Q0.o cH.o;have aR:=aE.o.ex.frz Q1.o cG.o;have aN:=Aa aE.o;clear aE;go_wp2_with fail
   exact bodyPost_ret (v:= .agg #[b,.slice la (Ck b S b).length lc]) (by simp[results,Tryz.results175,go_sem,q0,q1]) rfl ⟨_,rfl,aN.o.o _ _,((EA.o.trans aN.o.ex).setCell (p:=⟨q,0,none⟩) bA.o _).setCell (p:=⟨q,1,none⟩) bA.o _⟩
end Go.Proofs.YtehieobniamagaaGreat
