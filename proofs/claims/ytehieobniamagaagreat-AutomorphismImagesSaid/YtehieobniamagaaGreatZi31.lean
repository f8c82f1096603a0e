/- Walk of automorphism.Certify. -/
import Derived.Test.YtehieobniamagaaGreatZi30
namespace Go.Proofs.YtehieobniamagaaGreat
open List renaming mem_filter→δy,getElem?_eq_getElem→γ,mem_of_getElem?→ι,length_map→Ϛ,take_add_one→γd,length_append→ν,getElem?_append_left→ο,take_length→γf
open Nat renaming le_refl→ζ,mul_comm→γq,add_assoc→ζw
open Go.RowKit
set_option linter.all false
set_option maxRecDepth 100000
set_option maxHeartbeats 8000000
noncomputable def L3(c:AX):Chn × Int:=Dg (Ff c:Int) (Er c.p.toNat c.m.toNat c.ml (Di c (AG c)))
noncomputable def YJ(c:AX)(e0:Int):Int:=if JV c e0≠0 then JV c e0 else(L3 c).2
def CeO(c:AX)(r:Ending)(w':World):Prop:=∃e0:Int,Bw c.p c.m c.ml c.n c.rows e0/\
 ((YJ c e0≠0/\r= .returned (.tuple #[.agg #[Ω,(),()],.int .i64 (YJ c e0)]))∨
 (YJ c e0=0/\∃lv rv,r= .returned (.tuple #[.agg #[.int .i64 (L3 c).1.deg,lv,rv],Ω])/\ER w' lv (L3 c).1.lev/\Mh w' rv (Jm c (JH c (AG c)))))
theorem dq{P:Prop}(h:P:=by simp[results,Tryz.results32,go_sem,q0,q1,q2]):P:=h
theorem MP(w:World)(c:AX)(m1 v1:Value)(hc:c.at w m1 v1)(aJ:(Di c (AG c)).length<=1000)(cP:(JH c (AG c)).length<=1000)(cQ:∀M∈Di c (AG c),Pa c.n.toNat M)(cO:∀g∈JH c (AG c),I5 0 (gF c g)=0):
  Calls Tryz.prog 32 #[c.arg m1 v1] w fun r w'=>CeO c r w'/\Ex w w':=by
 obtain⟨c0,c1,c2,c3,c4⟩:=C8 w c m1 v1;have aX:=AF w (c.obj m1 v1);have bN:=Aa (hc.ex aX);have bE:=Aa aX;obtain⟨x1,y1,cL,-,z1,-⟩:=hc.g.open;obtain⟨x3,y3,cK,-,z3,-⟩:=hc.m.open;unfold maxLen at z1 z3;obtain⟨B,hB⟩:=nA w.heap.size;have cM:(w.alloc (c.obj m1 v1)).heap.size=B+1:=by simp[hB]
 have bC:=YM.new (w.alloc (c.obj m1 v1));have aF:Ex (w.alloc (c.obj m1 v1)) ((w.alloc (c.obj m1 v1)).alloc (.cells #[Ω,(),()] 53)):=(Ex.refl _).alloc _;have aO:=Aa (IY ((w.alloc (c.obj m1 v1)).alloc (.cells #[Ω,(),()] 53)) c m1 v1 (hc.ex (aX.trans aF)));have aP:=Aa (fun (w5:World) (h5:Ex (w.alloc (c.obj m1 v1)) w5) (g:Cd) (u r:Value) (hu:Ak w5 u g.tl) (hr:Ak w5 r g.sl) (FB:Nat->Prop) (h1:∀X,FB X->X<w5.heap.size) (h2:∀X,u.ownBlock=some X->¬FB X) (h3:∀X,r.ownBlock=some X->¬FB X)=>Rc w5 c c m1 m1 v1 v1 (bN.o.ex h5) (bN.o.ex h5) g.tl g.sl u r hu hr FB h1 (fun _=>h2) (fun _=>h3));rw[cM]at bC;rw[hB]at c0 c1 c2 c3 c4;replace c0:=aF.cell c0;replace c1:=aF.cell c1;replace c2:=aF.cell c2;replace c3:=aF.cell c3;replace c4:=aF.cell c4;obtain⟨bW,aC,bV,bO,aB⟩:=On aF cM (aX.trans aF) bC (show((w.alloc (c.obj m1 v1)).alloc (.cells #[Ω,(),()] 53)).heap.size=B+1+1 from by simp[hB]);obtain⟨C,hC⟩:∃C:AX,C=c:=⟨_,rfl⟩;have dF:=Aa hC;have cY:Hia (∀r w',CeO C r w'->CeO c r w'):=Aa (fun r w' h=>by rw[<-hC];exact h);rw[<-hC]at aJ cQ cP cO;obtain⟨cp,cm,aR,cn,bU⟩:=c;unfold AX.arg at aO aP ⊢;unfold AX.obj at bE aC bV bW aO aP bO aB bN c0 c1 c2 c3 c4;dsimp only at bE aC bV bW aO aP bO aB bN c0 c1 c2 c3 c4 cL cK ⊢;rw[cL,cK]at bE aC bV bW aO aP bO aB c0 c1 c2 c3 c4 ⊢;rw[<-hC]at aO aP;obtain⟨eR,bY,eQ,dW⟩:=Of aJ cP cQ cO;clear hc aX hC cL cK aF bC cM aJ cP cQ cO bN;have dB:Hia (w.heap.size<=B+1):=Aa (ac);go_enter Tryz.func32,Tryz.ntmps32
 go_upto_region 1 with fail
 try simp only[hB]
 clear hB;generalize w.alloc (.cells #[cp,cm,(x3,aR.length,y3),cn,(x1,bU.length,y1)] 39)=wa at *;generalize wa.alloc (.cells #[Ω,(),()] 53)=w1 at *;go_wp2_with fail
 refine aO.o.mono ?_;rintro e w2⟨aZ,aD⟩;have bX:=Aa aD;obtain⟨e0,dN,ho⟩:=Rt aZ;have cA:=Aa dN;replace c0:=aD.cell c0;replace c1:=aD.cell c1;replace c2:=aD.cell c2;replace c3:=aD.cell c3;replace c4:=aD.cell c4;obtain⟨q0,q1,q2,q3,cH,cG,cF⟩:=bO.o.ex aD;obtain⟨GE,cV⟩:∃x,JV C e0=x:=⟨_,rfl⟩;rw[cV]at ho;have dC:=Aa cV;clear aZ aD dN aO cV;rcases ho with⟨h0,rfl⟩|⟨h0,bC,pn,mn,N,b,x0,mv,nv,hp,hm,hn,hN1,hN64,hD,rfl,hg,hx1,aD,hms,hns⟩
 .have hb:(GE !=0)=true:=by simpa using h0
  have HZ:Hia (YJ C e0=GE/\GE≠0):=Aa (by unfold YJ;rw[dC.o,if_pos h0];exact⟨rfl,h0⟩);clear h0;go_wp2_with fail
  exact bodyPost_ret (v:= .tuple #[.agg #[Ω,(),()],GE]) dq rfl ⟨cY.o _ _ ⟨e0,cA.o,.inl ⟨by rw[HZ.o.1];exact HZ.o.2,by rw[HZ.o.1]⟩⟩,Co (bV.o.trans bX.o) dB.o _ _ _⟩
 .subst h0;have eK:cn=(N:Int):=by have:=dF.o;rw[this]at hn;exact hn
  subst eK;have eX:Hia (e0=0):=Aa (by
   have h1:=dC.o;unfold JV at h1;split at h1
   .rename_i h2;exact absurd h1 h2
   .rename_i h2;have h3:IS C e0=0:=by simpa using h2
    unfold IS at h3;split at h3
    .exact h3
    .rename_i h4;simpa using h4)
  have bI:=Aa (show C.p=pn/\C.m=mn/\C.n=N from⟨hp,hm,hn⟩);have eP:Hia (C.n.toNat=N):=Aa (by rw[hn];rfl);have dI:Hia (L3 C=Dg ((N*(pn^mn-1):Nat):Int) (Er pn mn C.ml (Di C (AG C)))):=Aa (by unfold L3 Ff;rw[hp,hm,hn];rfl);have dZ:=Aa (fun (w5:World) (h5:Ex w2 w5)=>JN w5 (hg.ex h5) N hN64 hD (Di C (AG C)) mv (hms.ex h5) (fun M hM=>by have:=eQ.o M hM;rwa[eP.o]at this) eR.o);have cX:Hia (YJ C e0=(L3 C).2):=Aa (by unfold YJ;rw[dC.o,if_neg ag]);obtain⟨ma,mc,rfl,-,-,-⟩:=hms.open;obtain⟨na,nc,rfl,-,zn,n3⟩:=hns.open;unfold maxLen at zn;obtain⟨BS,cW⟩:∃x,L3 C=x:=⟨_,rfl⟩;have eD:=Aa cW;rw[cW]at cX dI;obtain⟨⟨bd,bl⟩,be⟩:=BS;obtain⟨LM,cU⟩:∃x,(Di C (AG C)).length=x:=⟨_,rfl⟩;have dH:Hia (∀w5,Ex w2 w5->Calls Tryz.prog 64 #[(b,0),(N:Int),(ma,LM,mc)] w5 fun r w'=>(∃v,r= .returned (.tuple #[.agg #[bd,v],be])/\ER w' v bl)/\Ex w5 w'):=Aa (fun w5 h5=>by
   rw[<-cU];exact(dZ.o w5 h5).mono (by
    rintro r w'⟨⟨v,h1,h2⟩,h3⟩;rw[<-dI.o]at h1 h2;exact⟨⟨v,h1,h2⟩,h3⟩))
  have eF:Hia (∀l∈bl,2<=l.orb.length/\2<=l.reps.length/\∀r∈l.reps,2<=r.length):=Aa (fun l hl=>LZ (n:=((N*(pn^mn-1):Nat):Int)) (rows:=Er pn mn C.ml (Di C (AG C))) (by rw[<-dI.o];exact hl));obtain⟨NS,cS⟩:∃x,JH C (AG C)=x:=⟨_,rfl⟩;have dX:=Aa cS;rw[cS]at n3 bY dW ⊢;obtain⟨LN,cT⟩:∃x,NS.length=x:=⟨_,rfl⟩;have dY:=Aa cT;rw[cT]at n3 bY ⊢;have N3:=Aa n3;rw[cU];have cZ:Hia (∀(w5:World) (h5:Ex wa w5) (g:Cd) (u r:Value),g∈NS->Ak w5 u g.tl->Ak w5 r g.sl->∀(FB:Nat->Prop),(∀X,FB X->X<w5.heap.size)->(∀X,u.ownBlock=some X->¬FB X)->(∀X,r.ownBlock=some X->¬FB X)->Calls Tryz.prog 83 #[.agg #[cp,cm,(x3,aR.length,y3),N,(x1,bU.length,y1)],.agg #[cp,cm,(x3,aR.length,y3),N,(x1,bU.length,y1)],.agg #[u,r]] w5 fun r' w'=>RfF FB (I4 0 (gF C g)) 0 r' w'/\Ex w5 w'):=Aa (fun w5 h5 g u r bA hu hr FB h1 h2 h3=>by
   refine(aP.o w5 h5 g u r hu hr FB h1 h2 h3).mono ?_;rintro r' w'⟨⟨e1,e2,k1,k2,k3⟩,k4⟩;refine⟨?_,k4⟩;have hz:=eX.o;have bB:Bw cp cm aR N bU 0:=by have h1:=cA.o;rw[dF.o,hz]at h1;exact h1
   obtain rfl:e1=0:=B3 k1 bB;obtain rfl:e2=0:=B3 (k2 rfl) bB;have dK:=bI.o.1;have dL:=bI.o.2.1;rw[dF.o]at dK dL;have eI:g∈Dw N (pn^mn):=by
    rw[<-dX.o]at bA;unfold JH AG at bA;rw[bI.o.1,bI.o.2.1,bI.o.2.2]at bA;exact(δy.1 bA).1
   have BF:F5 0 0 (CE cp cm aR cp cm aR) N N g.tl g.sl (cp.toNat^cm.toNat)=0:=Se (N:=N) rfl (q:=cp.toNat^cm.toNat) (by
    have h1:cp=pn:=dK;have h2:cm=mn:=dL;rw[h1,h2];exact Ix eI)
   rw[BF]at k3;have eG:=dW.o g bA;have:Gw C C g.tl g.sl=gF C g:=rfl;rw[this,eG]at k3;exact k3)
  clear bC hp hm hn hN1 hN64 hD hg hx1 aD hms hns cW cU dZ n3 cS cT aP;obtain⟨OB,bT⟩:∃x,w2.heap.size=x:=⟨_,rfl⟩;have bg:=YM.new w2;rw[bT]at bg;have bM:=Aa (show Ex w2 (w2.alloc (.cells #[Ω,(),()] 53)) from(Ex.refl w2).alloc _);have dG:=Aa bg;go_upto_region 5 with fail
  try simp only[bT]
  have bJ:=Aa bT;clear bT bg;generalize w2.alloc (.cells #[Ω,(),()] 53)=w3 at *;replace c3:=bM.o.cell c3;obtain⟨t0,t1,t2,t3,cE,cD,cC⟩:=dG.o;go_upto_region 6 with (go_at_call 64;refine(dH.o w3 bM.o).mono ?_;rintro e w6⟨⟨v6,rfl,cJ⟩,cI⟩;obtain⟨la,lc,eH,_,_,_⟩:=cJ.open;subst eH;clear t0 t1 t2 t3 cE cD cC;obtain⟨t0,t1,t2,t3,cE,cD,cC⟩:=dG.o.ex cI;have dS:=Aa cJ;have bG:=Aa cI;clear cJ cI)
  have dD:=Aa (dG.o.ex bG.o);have aI:=Aa (bO.o.ex (bX.o.trans (bM.o.trans bG.o)));have dJ:B+1<w6.heap.size:=(World.block_lt_of_cell? _ (⟨B+1,0,none⟩:Addr) aI.o.c0);have cB:=Aa (Uy.start (RB:=B+1) (d:=bd) (lv:= .slice la bl.length lc) dD.o dJ);have aT:Hia (B+1<OB):=Aa (by have:=bX.o.size;have:=aB.o;have:=bJ.o;omega);have aS:Hia (Ex wa ((w6.setCell (OB,0) (.int .i64 bd)).setCell (OB,1) (.slice la bl.length lc))):=Aa (J3 (bW.o.trans (bX.o.trans (bM.o.trans bG.o))) (by have:=aT.o;have:=aC.o;omega) _ _);have bH:=Aa (bM.o.trans bG.o);clear t0 t1 t2 t3 cE cD cC q0 q1 q2 q3 cH cG cF dJ;obtain⟨w7,bQ⟩:∃x,(w6.setCell (OB,0) (.int .i64 bd)).setCell (OB,1) (.slice la bl.length lc)=x:=⟨_,rfl⟩;rw[bQ]at cB aS;have dE:Hia (w7.frozen? (B+1,0)=false/\w7.frozen? (B+1,1)=false/\w7.frozen? (B+1,2)=false):=Aa (by rw[<-bQ];exact⟨by rw[AC,AC];exact aI.o.f0,by rw[AC,AC];exact aI.o.f1,by rw[AC,AC];exact aI.o.f2⟩)
  try simp only[bQ]
  clear bQ;have dA:Hia (∀w',Dc (fun X=>X=OB) w6 w'->w'.cell? (B+1,0)=some (.int .i64 0)/\w'.cell? (B+1,1)=some (.slice none 0 0)/\w'.cell? (B+1,2)=some (.slice none 0 0)):=Aa (fun w' h=>
   ⟨h.cell aI.o.c0 (by show ¬B+1=OB;have:=aT.o;omega),h.cell aI.o.c1 (by show ¬B+1=OB;have:=aT.o;omega),h.cell aI.o.c2 (by show ¬B+1=OB;have:=aT.o;omega)⟩)
  by_cases hbe:be=0
  rotate_left
  .have hb:(be !=0)=true:=by simpa using hbe
   have HZ:=Aa (show YJ C e0=be/\be≠0 from⟨cX.o,hbe⟩);obtain⟨q0,q1,q2⟩:=dA.o w7 cB.o.off;obtain⟨cH,cG,cF⟩:=dE.o;clear hbe;go_wp2_with fail
   exact bodyPost_ret (v:= .tuple #[.agg #[Ω,(),()],be]) dq rfl ⟨cY.o _ _ ⟨e0,cA.o,.inl ⟨by rw[HZ.o.1];exact HZ.o.2,by rw[HZ.o.1]⟩⟩,Co (bE.o.trans aS.o) dB.o _ _ _⟩
  .subst hbe;go_wp2_with fail
   go_loopw [39] (fun k' wr=>∃(k:Nat) (rv:Value) (evs:List Value),k<=LN/\k'= .int .i64 k/\Hia (Uy w6 wr OB (B+1) bd (.slice la bl.length lc) rv (Jm C (NS.take k)) evs)/\Hia (Ex wa wr)/\Hia (wr.frozen? (B+1,0)=false/\wr.frozen? (B+1,1)=false/\wr.frozen? (B+1,2)=false)) (fun k' _=>LN-(intOf k').toNat)
   case atStart=>exact⟨0,_, [],ac,rfl,cB,aS,dE⟩
   case round=>
    clear cB aS dE;obtain⟨k,rv,evs,hk,rfl,aK,bP,bS⟩:=hrel;obtain⟨ra,rc,rfl⟩:=Ad aK.o.own;by_cases hkl:k<LN
    .have aA:=Aa aK.o;have dR:=Aa bP.o;have eV:=Aa bS.o;have aG:Hia (∀(q:Addr) (u:Value),w2.cell? q=some u->wr.cell? q=some u):=Aa (fun q u h=>aA.o.off.cell (bH.o.cell h) (fun e=>by
      have h1:q.block<w2.heap.size:=World.block_lt_of_cell? _ _ h;have h2:q.block=OB:=e;have:=bJ.o;omega))
     have eA:Hia (∀(v:Value) (l:List Int),Ak w2 v l->0<l.length->Ak wr v l):=Aa (fun v l h hl=>Sl.offQ (h.ex bH.o) (fun _ q hq e=>by
      have h1:=Sl.blk h (by rw[Be];exact hl) e;have h2:q=OB:=hq;have:=bJ.o;omega) aA.o.off)
     obtain⟨gb,go,rfl,dM⟩:=N3.o ac;obtain⟨g,hg⟩:∃g,NS[k]?=some g:=⟨_,γ (by rw[dY.o];exact hkl)⟩;obtain⟨u,r,d0,d1,d2,d3,d4,hu,bR,dO,dP⟩:=dM k g hg;obtain⟨eU,eT,eC,eE,HU,dV⟩:=Ty hg (ι hg) (show ∀X,u.ownBlock=some X->B+1<X/\X<OB from fun X e=>⟨by have:=dO X e;have:=aB.o;omega,by have:=Sl.blk hu (by rw[Be,AP];omega) e;have:=bJ.o;omega⟩) (show ∀X,r.ownBlock=some X->B+1<X/\X<OB from fun X e=>⟨by have:=dP X e;have:=aB.o;omega,by have:=Sl.blk bR (by rw[Be,BL];omega) e;have:=bJ.o;omega⟩) (eA.o _ _ hu (by rw[AP];omega)) (eA.o _ _ bR (by rw[BL];omega));obtain⟨ua,uc,rfl,-,-,-⟩:=hu.open;obtain⟨qa,qc,rfl,-,-,-⟩:=bR.open;rw[AP]at d3 HU eC;rw[BL]at d4 dV eE;replace d0:=aG.o _ _ d0;replace d1:=aG.o _ _ d1;replace d2:=aG.o _ _ d2;replace d3:=aG.o _ _ d3;replace d4:=aG.o _ _ d4;rw[show go+5*k=go+k*5 from ac]at d0;rw[show go+(5*k+1)=go+k*5+1 from ac]at d1;rw[show go+(5*k+2)=go+k*5+2 from ac]at d2;rw[show go+(5*k+3)=go+k*5+3 from ac]at d3;rw[show go+(5*k+4)=go+k*5+4 from ac]at d4;have k0:=aG.o _ _ c0;have k1:=aG.o _ _ c1;have k2:=aG.o _ _ c2;have k4:=aG.o _ _ c4;have k3:=aA.o.off.cell ((bG.o).cell c3) (show ¬B=OB from by have:=aT.o;omega);have i1:(0:Int)<=(k:Int):=by omega
     have i2:(k:Int)<(LN:Int):=ac;have bZ:=Aa hkl;clear aK bP bS hg dM hu bR dO dP hkl;go_upto_region 11 with fail
     obtain⟨XB,aM⟩:∃x,wr.heap.size=x:=⟨_,rfl⟩;have x3:(wr.alloc (.cells #[.int .i64 g.i,.int .i64 g.j,.int .i64 g.a,.slice ua (g.i+1) uc,.slice qa (g.i+1) qc] 129)).cell? (XB,3)=some (.slice ua (g.i+1) uc):=by rw[<-aM];simp
     have x4:(wr.alloc (.cells #[.int .i64 g.i,.int .i64 g.j,.int .i64 g.a,.slice ua (g.i+1) uc,.slice qa (g.i+1) qc] 129)).cell? (XB,4)=some (.slice qa (g.i+1) qc):=by rw[<-aM];simp
     have aW:(wr.alloc (.cells #[.int .i64 g.i,.int .i64 g.j,.int .i64 g.a,.slice ua (g.i+1) uc,.slice qa (g.i+1) qc] 129)).cell? (XB,0)=some (.int .i64 g.i):=by rw[<-aM];simp
     have aV:(wr.alloc (.cells #[.int .i64 g.i,.int .i64 g.j,.int .i64 g.a,.slice ua (g.i+1) uc,.slice qa (g.i+1) qc] 129)).cell? (XB,1)=some (.int .i64 g.j):=by rw[<-aM];simp
     have aU:(wr.alloc (.cells #[.int .i64 g.i,.int .i64 g.j,.int .i64 g.a,.slice ua (g.i+1) uc,.slice qa (g.i+1) qc] 129)).cell? (XB,2)=some (.int .i64 g.a):=by rw[<-aM];simp
     have aE:=Aa (show Ex wr (wr.alloc (.cells #[.int .i64 g.i,.int .i64 g.j,.int .i64 g.a,.slice ua (g.i+1) uc,.slice qa (g.i+1) qc] 129)) from(Ex.refl wr).alloc _)
     try simp only[aM]
     clear aM d0 d1 d2 d3 d4 i1 i2;generalize wr.alloc (.cells #[.int .i64 g.i,.int .i64 g.j,.int .i64 g.a,.slice ua (g.i+1) uc,.slice qa (g.i+1) qc] 129)=w5 at *;replace k0:=aE.o.cell k0;replace k1:=aE.o.cell k1;replace k2:=aE.o.cell k2;replace k3:=aE.o.cell k3;replace k4:=aE.o.cell k4;obtain⟨LE,aN⟩:∃x,(Jm C (NS.take k)).length=x:=⟨_,rfl⟩;have bL:Hia (LE<=1000):=Aa (by
      rw[<-aN];have:=bY.o;have:=bZ.o;unfold Jm;rw[Ϛ,List.length_take];omega)
     have bK:=Aa aN;rw[aN]at aA;have eB:=Aa (cZ.o w5 (dR.o.trans aE.o) g _ _ eT.o (HU.o.ex aE.o) (dV.o.ex aE.o) (fun X=>X=OB∨X=B+1∨(Value.slice ra LE rc).ownBlock=some X)
      (fun X hX=>by
       have h1:=aE.o.size;have h2:=aA.o.size;have h3:=aA.o.ob;have h4:=aA.o.rb;rcases hX with hX|hX|hX
       .omega
       .omega
       .have:=(aA.o.own.lt X hX).2;omega)
      (fun X e hX=>by
       have h3:=aA.o.ob;obtain⟨h1,h2⟩:=eC.o X e;rcases hX with hX|hX|hX
       .omega
       .omega
       .have:=(aA.o.own.lt X hX).1;omega)
      (fun X e hX=>by
       have h3:=aA.o.ob;obtain⟨h1,h2⟩:=eE.o X e;rcases hX with hX|hX|hX
       .omega
       .omega
       .have:=(aA.o.own.lt X hX).1;omega))
     clear aN;go_wp2_with fail
     refine eB.o.mono ?_;rintro e w9⟨⟨ev,rfl,cN⟩,aY⟩;have dU:=Aa cN;obtain⟨-,-,⟨-,ea,ec,eJ,-⟩,-⟩:=cN.g.rsl;subst eJ;obtain⟨LP,dQ⟩:∃x,(I4 0 (gF C g)).length=x:=⟨_,rfl⟩;rw[dQ]at dU ⊢;replace aW:=aY.cell aW;replace aV:=aY.cell aV;replace aU:=aY.cell aU;have bF:=Aa (show Ex w9 (w9.alloc (.cells #[(ea,LP,ec)] 94)) from(Ex.refl w9).alloc _);have t0:(w9.alloc (.cells #[(ea,LP,ec)] 94)).cell? (w9.heap.size,0)=some (.slice ea LP ec):=ag;obtain⟨TB,cR⟩:∃x,w9.heap.size=x:=⟨_,rfl⟩;rw[cR]at t0;have aH:=Aa (aE.o.trans (aY.trans bF.o));replace aW:=bF.o.cell aW;replace aV:=bF.o.cell aV;replace aU:=bF.o.cell aU;have eN:=Aa (dU.o.g.off (.ex bF.o) fun X _ hX=>hX);clear cN dQ aY eB k0 k1 k2 k3 k4 x3 x4;go_upto_region 12 with fail
     try simp only[cR]
     clear cR;generalize w9.alloc (.cells #[(ea,LP,ec)] 94)=w10 at *;have aQ:=Aa (aA.o.later aH.o);have b2:=aQ.o.b2;have eO:Hia (w10.ownsRow w6.heap.size 96 4 (.slice ra LE rc) LE (OO (Jm C (NS.take k)) evs)):=Aa (by have:=aQ.o.own;rwa[bK.o]at this);have eM:=Aa aQ.o.size;have hk64:k<=1048576:=by have:=bZ.o;have:=bY.o;omega
     go_wp2_with (at_builtin;refine Al _ rfl _ _ 51 rfl w6.heap.size 96 (.agg #[Ω,Ω,Ω,()]) 4 48 Tryz.underlying51 Z1 rfl ae _ LE _ rfl eO.o [.int .i64 (g.i:Int),.int .i64 (g.j:Int),.int .i64 (g.a:Int),.slice ea LP ec] 96 _ rfl ag rfl aj (by have:=bL.o;unfold maxLen;omega) (by have:=bL.o;omega) eM.o ?_)
     intro v8 w8 aL;have bD:Bz w10 w8 w6.heap.size 96 4 (.slice ra LE rc) v8 (Jm C (NS.take k)).length (OO (Jm C (NS.take k)) evs) [.int .i64 (Vs C g).i,.int .i64 (Vs C g).j,.int .i64 (Vs C g).a,.slice ea LP ec]:=by rw[bK.o];exact aL
     obtain⟨cc2,ff2,hn⟩:=aQ.o.app (x:=Vs C g) eN.o bD;rw[show Jm C (NS.take k) ++ [Vs C g]=Jm C (NS.take (k+1)) from by unfold Jm;rw[γd,eU.o,List.map_append];rfl]at hn;have HN:=Aa hn;have eL:=Aa (show Ex wa (w8.setCell (OB,2) v8) from(aL.ex (dR.o.trans aH.o) (by have:=aA.o.rb;have:=aC.o;omega)).setCell (p:=⟨OB,2,none⟩) (by have:=aT.o;have:=aC.o;show wa.heap.size<=OB;omega) _);have eW:=Aa (show(w8.setCell (OB,2) v8).frozen? (B+1,0)=false/\(w8.setCell (OB,2) v8).frozen? (B+1,1)=false/\(w8.setCell (OB,2) v8).frozen? (B+1,2)=false from by
      obtain⟨h0,h1,h2⟩:=dA.o wr aA.o.off;obtain⟨f0,f1,f2⟩:=eV.o;rw[AC,AC,AC];exact⟨aL.frz (aH.o.cell h0) (aH.o.frz h0 f0) aQ.o.no.2,aL.frz (aH.o.cell h1) (aH.o.frz h1 f1) aQ.o.no.2,aL.frz (aH.o.cell h2) (aH.o.frz h2 f2) aQ.o.no.2⟩)
     obtain⟨na8,nc8,rfl⟩:=Ad aL.own;clear aL bD hn aW aV aU t0 b2;go_wp2_with fail
     go_roundw
     case rel=>exact⟨k+1,_,_,by have:=bZ.o;omega,by go_num,HN,eL,eW⟩
     case measure=>have:=bZ.o;simp[intOf];omega
    .obtain rfl:LN=k:=by omega
     have dT:Hia (NS.take LN=NS):=Aa (List.take_of_length_le (by rw[dY.o];exact ζ _));obtain⟨LE,aN⟩:∃x,(Jm C (NS.take LN)).length=x:=⟨_,rfl⟩;rw[aN]at aK;rw[dT.o]at aK;have aA:=Aa aK.o;have aS:=Aa bP.o;have HLV:Hia (ER wr (.slice la bl.length lc) bl):=Aa (ER.offQ (Q:=fun X=>X=OB) (fun q hq=>by rw[hq];exact dD.o) dS.o eF.o aA.o.off);have eS:Hia (∀u v z,ER (((wr.setCell (B+1,0) u).setCell (B+1,1) v).setCell (B+1,2) z) (.slice la bl.length lc) bl):=Aa (fun u v z=>ER.offQ (Q:=fun X=>X=OB∨X=B+1) (fun q hq=>by rcases hq with hq|hq <;> rw[hq];exact dD.o;exact aI.o) dS.o eF.o ((aA.o.off.mono fun X _ h=> .inl h).trans ((KB u v z).mono fun X _ h=> .inr h) aA.o.size));obtain⟨q0,q1,q2⟩:=dA.o wr aA.o.off;obtain⟨cH,cG,cF⟩:=bS.o;have d0:=aA.o.b0;have d1:=aA.o.b1;have d2:=aA.o.b2;clear aK bP bS aN dT;go_wp2_with fail
     exact bodyPost_ret (v:= .tuple #[.agg #[bd,.slice la bl.length lc,(ra,LE,rc)],Ω]) dq rfl ⟨cY.o _ _ ⟨e0,cA.o,.inr ⟨cX.o,_,_,by rw[eD.o],by rw[eD.o];exact eS.o _ _ _,by rw[dX.o];exact aA.o.fin _ _ _⟩⟩,Co (bE.o.trans aS.o) dB.o _ _ _⟩
def Bn(L:List Lv):List (List Int):=L.flatMap fun l=>l.reps
theorem Sg{L:List Lv}{i:Nat}{l:Lv}(h:L[i]?=some l):Bn (L.take (i+1))=Bn (L.take i)++l.reps:=by
 unfold Bn;rw[γd,h];simp
theorem Qr(L:List Lv)(i:Nat):(Bn (L.take i)).length<=(Bn L).length:=by
 have:Bn L=Bn (L.take i)++Bn (L.drop i):=by
  unfold Bn;rw[<-List.flatMap_append,List.take_append_drop]
 rw[this,ν];omega
open Classical in
noncomputable def Bq (d:Int) (L:List Lv):Int:=if d<1∨64<d then 4 else if Es d (Bn L)=0/\L=Ck d.toNat ((Bn L).map Dr) d.toNat then 0 else 5
theorem QT{n:Nat}{S:List (Nat->Nat)}{m:Nat}{l:Lv}(h:l∈Ck n S m):l.orb.length<=n/\l.reps.length=l.orb.length:=by
 unfold Ck at h;obtain⟨h1,h2⟩:=δy.1 h;obtain⟨b,_,rfl⟩:=List.mem_map.1 h1;refine⟨by show(DN (Bf S b n)).length<=n;rw[Cz];exact Fn S b n,?_⟩;show(Eb n S b n).length=(DN (Bf S b n)).length
 unfold Eb;rw[Ϛ,Cz]
structure Hd(w0 wr:World)(gv:Value)(M:List (List Int))(vals:List Value):Prop where
 own:wr.ownsRow w0.heap.size 22 1 gv M.length vals
 row:∀(i:Nat) (r:List Int) (u:Value),M[i]?=some r->vals[i]?=some u->Ak w0 u r
 ex:Ex w0 wr
theorem Hd.nil(w:World):Hd w w (.slice none 0 0) [] []:=⟨World.ownsRow_nil _ _ _ _,fun i r u h=>by simp at h,Ex.refl _⟩
theorem Hd.len{w0 wr:World}{gv:Value}{M:List (List Int)}{vals:List Value}(h:Hd w0 wr gv M vals):vals.length=M.length:=by have:=h.own.1;omega
theorem Hd.later{w0 wr w':World}{gv:Value}{M:List (List Int)}{vals:List Value}(h:Hd w0 wr gv M vals)(hx:Ex wr w'):Hd w0 w' gv M vals:=⟨Ag h.own hx,h.row,h.ex.trans hx⟩
theorem Hd.msl{w0 wr:World}{gv:Value}{M:List (List Int)}{vals:List Value}(h:Hd w0 wr gv M vals):B6 wr gv M:=⟨vals,Sl.own h.own,fun i r u a b=>(h.row i r u a b).ex h.ex⟩
theorem Hd.app{w0 wr w':World}{gv gv':Value}{M R:List (List Int)}{vals us:List Value}(h:Hd w0 wr gv M vals)(hr:∀(i:Nat) (r:List Int) (u:Value),R[i]?=some r->us[i]?=some u->Ak w0 u r)
  (ho:w'.ownsRow w0.heap.size 22 1 gv' (M.length+R.length) (vals++us)) (hx:Ex w0 w'):Hd w0 w' gv' (M++R) (vals++us):=by
 have hn:=h.len;refine⟨by rw[ν];exact ho,fun i r u h1 h2=>?_,hx⟩;by_cases e:i<M.length
 .rw[ο e]at h1;rw[ο ac]at h2;exact h.row i r u h1 h2
 .rw[List.getElem?_append_right ac]at h1 h2;rw[hn]at h2;exact hr _ r u h1 h2
theorem ER.open3{w:World}{v:Value}{L:List Lv}(h:ER w v L):∃a cap,v= .slice a L.length cap/\L.length<=cap/\cap<=maxLen/\
  (0<L.length->∃b o,a=some ⟨b,o,none⟩/\∀(i:Nat) (l:Lv),L[i]?=some l->∃u r,w.cell? ⟨b,o+i*3,none⟩=some (.int .i64 l.pt)/\w.cell? ⟨b,o+i*3+1,none⟩=some u/\w.cell? ⟨b,o+i*3+2,none⟩=some r/\Ak w u l.orb/\B6 w r l.reps):=by
 obtain⟨a,cap,h1,h2,h3,h4⟩:=h.open;refine⟨a,cap,h1,h2,h3,fun hn=>?_⟩;obtain⟨b,o,h5,h6⟩:=h4 hn;refine⟨b,o,h5,fun i l hl=>?_⟩;obtain⟨u,r,k1,k2,k3,k4,k5⟩:=h6 i l hl;exact⟨u,r,by rw[γq i 3];exact k1,by rw[γq i 3,ζw];exact k2,by rw[γq i 3,ζw];exact k3,k4,k5⟩
theorem TC{l k:List Lv}(hl:l.length=k.length)(h:∀j,j<l.length->l[j]?=k[j]?):l=k:=by
 exact zcu
theorem CQ(w:World)(c:Int)(v:Value):(w.alloc (.cells #[c,v] 43)).cell? (w.heap.size,0)=some (.int .i64 c)/\
  (w.alloc (.cells #[c,v] 43)).cell? (w.heap.size,1)=some v/\Ex w (w.alloc (.cells #[c,v] 43)):=
 ⟨ag,ag,(Ex.refl _).alloc _⟩
theorem EY(w:World)(c:Int)(u v:Value):(w.alloc (.cells #[c,u,v] 90)).cell? (w.heap.size,0)=some (.int .i64 c)/\
  (w.alloc (.cells #[c,u,v] 90)).cell? (w.heap.size,1)=some u/\(w.alloc (.cells #[c,u,v] 90)).cell? (w.heap.size,2)=some v/\Ex w (w.alloc (.cells #[c,u,v] 90)):=
 ⟨ag,ag,ag,(Ex.refl _).alloc _⟩
theorem zcv{P:Prop}(h:P:=by
 go_wp2_with fail
 go_ret;exact⟨Ai HR.o,aJ.o.trans (aA.o.ex.trans EB.o)⟩):P:=h
theorem GK(w:World)(d:Int)(L:List Lv)(lv:Value)(hL:ER w lv L)(hg:(Bn L).length<=1000):
  Calls Tryz.prog 70 #[.agg #[d,lv]] w fun r w'=>r= .returned (.int .i64 (Bq d L))/\Ex w w':=by
 obtain⟨d0,d1,e0⟩:=CQ w d lv;obtain⟨za,zc,rfl,z1,z2,z3⟩:=(hL.ex e0).open3;unfold maxLen at z2;have HL:=Aa (hL.ex e0);have Z3:=Aa z3;clear z3 hL;have HG:=Aa (H4 (w.alloc (.cells #[d,(za,L.length,zc)] 43)) d);go_enter Tryz.func70,Tryz.ntmps70
 go_wp2_with fail
 obtain⟨q,hq⟩:=nA w.heap.size;rw[hq]at d0 d1
 try simp only[hq]
 clear hq;generalize w.alloc (.cells #[d,(za,L.length,zc)] 43)=w1 at *;have aJ:=Aa e0;clear e0;refine HG.o.mono ?_;rintro e wd⟨rfl,rfl⟩;by_cases hd:d<1∨64<d
 .have HR:=Aa (show(4:Int)=Bq d L from by unfold Bq;rw[if_pos hd]);have aR:Mt d=4:=by unfold Mt;rw[if_pos hd]
  rw[aR];clear hd aR;go_wp2_with fail
  go_ret;exact⟨Ai HR.o,aJ.o⟩
 .have aR:Mt d=0:=by unfold Mt;rw[if_neg hd]
  rw[aR];obtain⟨D,rfl⟩:∃D:Nat,d=D:=⟨d.toNat,ac⟩;have hD1:1<=D:=bz;have hD2:D<=64:=ac;have aE:=Aa (show(¬(Es D (Bn L)=0/\L=Ck D ((Bn L).map Dr) D))->5=Bq D L from fun h=>by unfold Bq;rw[if_neg hd];exact(if_neg h).symm);have bG:Hia (Es D (Bn L)=0->L=Ck D ((Bn L).map Dr) D->0=Bq D L):=Aa (fun h k=>by unfold Bq;rw[if_neg hd];exact(if_pos ⟨h,k⟩).symm);clear hd aR;have D0:=Aa d0;have D1:=Aa d1;by_cases hln:D<L.length
  .have HR:=Aa (aE.o <| by
    rintro⟨_,h⟩;have:=congrArg List.length h;have:=QU D ((Bn L).map Dr) D;omega)
   have h1:(D:Int)<(L.length:Int):=ac;go_wp2_with fail
   go_ret;exact⟨Ai HR.o,aJ.o⟩
  .have h1:¬(D:Int)<(L.length:Int):=by omega
   go_wp2_with fail
   clear d0 d1
   go_loopw [4,27] (fun gv' k' wr=>∃(k:Nat) (vals:List Value),k<=L.length/\k'= .int .i64 k/\Hia (Hd w1 wr gv' (Bn (L.take k)) vals)) (fun _ k' _=>L.length-(intOf k').toNat)
   case atStart=>exact⟨0, [],ac,rfl,Aa (Hd.nil w1)⟩
   case round=>
    obtain⟨k,vals,hk,rfl,aA⟩:=hrel;have cA:=Qr L k;obtain⟨ga,gc,rfl⟩:=Ad aA.o.own;by_cases hkl:k<L.length
    .obtain⟨l,hl⟩:∃l,L[k]?=some l:=⟨_,γ hkl⟩;obtain⟨zb,zo,rfl,aO⟩:=Z3.o ac;obtain⟨u,r,c0,c1,c2,hu,hr⟩:=aO k l hl;have c0:=aA.o.ex.cell c0;have c1:=aA.o.ex.cell c1;have c2:=aA.o.ex.cell c2;have d0:=aA.o.ex.cell D0.o;have d1:=aA.o.ex.cell D1.o;obtain⟨oa,oc,rfl,_,_,_⟩:=hu.open;obtain⟨ra,rc,rfl,_,_,_⟩:=hr.open;have i1:(0:Int)<=(k:Int):=by omega
     have i2:(k:Int)<(L.length:Int):=ac;obtain⟨p,hp⟩:=nA l.pt;rw[hp]at c0;obtain⟨bE,HPE,HU,aU⟩:=Of hl hp hu hr;obtain⟨b0,b1,b2,eb⟩:=EY wr p (.slice oa l.orb.length oc) (.slice ra l.reps.length rc);have bd0:=eb.cell d0;have EB:=Aa eb;clear aO hl hp hu hr d1 eb;by_cases hbad:D<l.orb.length
     .have HR:=Aa (aE.o <| by
       rintro⟨_,h⟩;have:=(QT (h ▸ ι bE.o)).1;omega)
      have h2:(D:Int)<(l.orb.length:Int):=ac;clear hbad;exact zcv
     .have h2:¬(D:Int)<(l.orb.length:Int):=by omega
      by_cases hne:l.reps.length=l.orb.length
      .have h3:((l.reps.length:Int) !=(l.orb.length:Int))=false:=by simp;omega
       have HNE:=Aa hne;clear hne hbad;obtain⟨us,bO,_,bL⟩:=aU.o.vals;have bP:=Aa bL;have bR:=Aa bO;clear bL bO;have cG:Hia (∀u∈us,u.oneCell'=true):=Aa (fun u hu=>by
        obtain⟨i,hi,e⟩:=List.getElem_of_mem hu;have hul:us.length=l.reps.length:=by have:=bR.o.1;omega
        obtain⟨_,_,rfl,_⟩:=(bP.o i _ u (γ ac) au).open;rfl)
       have aZ:=Qr L (k+1);have bY:=Aa (Sg bE.o);rw[bY.o,ν]at aZ;have HB:=Aa (Nat.le_trans aA.o.ex.size EB.o.size);have bU:=Aa (Ag aA.o.own EB.o);have cC:=Aa (bR.o.ex (aA.o.ex.trans EB.o));go_wp2_with (at_builtin;refine A6 _ rfl _ _ 37 rfl w1.heap.size 22 (.slice none 0 0) 1 24 Tryz.underlying37 BZ rfl ae (.slice ga (Bn (L.take k)).length gc) (Bn (L.take k)).length vals rfl bU.o (.slice ra l.reps.length rc) l.reps.length us rfl cC.o cG.o ai ac HB.o ?_;intro v' w' aK hg hb;have cI:=Aa (aA.o.app (R:=l.reps) (us:=us) (fun i r u a b=>bP.o i r u a b) aK (Ex.grown (aA.o.ex.trans EB.o) bU.o (ζ _) hg));obtain⟨oa',oc',rfl⟩:=Ad aK;clear aK hg hb)
       go_roundw
       case rel=>exact⟨k+1,_,ac,by go_num,by rw[bY.o];exact cI⟩
       case measure=>exact Ωm
      .have h3:((l.reps.length:Int) !=(l.orb.length:Int))=true:=by simp;omega
       have HR:=Aa (aE.o <| by
        rintro⟨_,h⟩;have:=(QT (h ▸ ι bE.o)).2;omega)
       clear hbad hne;exact zcv
    .obtain rfl:k=L.length:=by omega
     have d0:=aA.o.ex.cell D0.o;have bA:=NH wr D (Bn (L.take L.length)) _ aA.o.msl ac;rw[γf]at bA;have bI:=Aa bA;have bM:Bn (L.take L.length)=Bn L:=by rw[γf]
     rw[bM];have aG:=Aa aA.o.ex;clear bA bM aA cA;by_cases hg0:Es D (Bn L)=0
     .have aM:Dg D (Bn L)=(⟨D,Ck D ((Bn L).map Dr) D⟩,0):=by unfold Dg;rw[hg0,if_neg ae];rfl
      have bX:=Aa (bG.o hg0);have bF:Hia (L≠Ck D ((Bn L).map Dr) D->5=Bq D L):=Aa (fun h=>aE.o fun k=>h k.2);obtain⟨K,hK⟩:=nA (Ck D ((Bn L).map Dr) D);rw[hK]at aM bX bF;have aY:=Aa aM;clear hK aM hg0;by_cases hkl:K.length=L.length
      .have hb:((K.length:Int) !=(L.length:Int))=false:=by simp;omega
       have bV:=Aa hkl;clear hkl;go_wp2_with (go_at_call 123;refine bI.o.mono ?_;rintro e w5⟨⟨kv,rfl,aB⟩,aC⟩;rw[aY.o]at aB ⊢;dsimp only at aB ⊢;have cH:=Aa aB;obtain⟨ka,kc,rfl,_,_,aQ⟩:=aB.open3;have bW:=Aa aQ;have aL:=Aa (aG.o.trans aC);have d0:=(aG.o.trans aC).cell D0.o;have d1:=(aG.o.trans aC).cell D1.o;obtain⟨b0,b1,eb⟩:=CQ w5 D (.slice ka K.length kc);have e1:=eb.cell d1;have EB:=Aa eb;clear aB aQ aC eb)
       go_loopw [72] (fun j' wr=>∃(j:Nat),j<=L.length/\j'= .int .i64 j/\Hia (∀i,i<j->L[i]?=K[i]?)/\Hia (Ex (w5.alloc (.cells #[D,(ka,K.length,kc)] 43)) wr)) (fun j' _=>L.length-(intOf j').toNat)
       case atStart=>exact⟨0,ac,rfl,Aa (fun i h=>ac),Aa (Ex.refl _)⟩
       case round=>
        clear d0 d1 e1;obtain⟨j,hj,rfl,aD,aF⟩:=hrel;by_cases hjl:j<L.length
        .obtain⟨l,hl⟩:∃l,L[j]?=some l:=⟨_,γ hjl⟩;have cB:j<K.length:=by have:=bV.o;omega
         obtain⟨k,hk⟩:∃k,K[j]?=some k:=⟨_,γ cB⟩;obtain⟨zb,zo,rfl,aO⟩:=Z3.o ac;obtain⟨yb,yo,rfl,bK⟩:=bW.o ac;have aT:=Aa ((aL.o.trans EB.o).trans aF.o);obtain⟨u,r,c0,c1,c2,hu,hr⟩:=aO j l hl;obtain⟨v,s,f0,f1,f2,hv,hs⟩:=bK j k hk;have c0:=aT.o.cell c0;have c1:=aT.o.cell c1;have c2:=aT.o.cell c2;have f0:=(EB.o.trans aF.o).cell f0;have f1:=(EB.o.trans aF.o).cell f1;have f2:=(EB.o.trans aF.o).cell f2;have b1:=aF.o.cell b1;obtain⟨oa,oc,rfl,_,_,_⟩:=hu.open;obtain⟨ra,rc,rfl,_,_,_⟩:=hr.open;obtain⟨pa,pc,rfl,_,_,_⟩:=hv.open;obtain⟨sa,sc,rfl,_,_,_⟩:=hs.open;have i1:(0:Int)<=(j:Int):=bz;have i2:(j:Int)<(L.length:Int):=ac;have i3:(j:Int)<(K.length:Int):=ac;obtain⟨p,hp⟩:=nA l.pt;rw[hp]at c0;obtain⟨t,ht⟩:=nA k.pt;rw[ht]at f0;obtain⟨aV,aW,bS,bT⟩:=Of hl hk hp ht;obtain⟨a0,a1,a2,ea⟩:=EY wr p (.slice oa l.orb.length oc) (.slice ra l.reps.length rc);have f0:=ea.cell f0;have f1:=ea.cell f1;have f2:=ea.cell f2;have b1:=ea.cell b1;obtain⟨g0,g1,g2,eg⟩:=EY (wr.alloc (.cells #[p,.slice oa l.orb.length oc,.slice ra l.reps.length rc] 90)) t (.slice pa k.orb.length pc) (.slice sa k.reps.length sc);obtain⟨cF,cE,aU,bQ,cD,bB⟩:=Ty ((hu.ex aT.o).ex (ea.trans eg)) (hv.ex ((EB.o.trans aF.o).trans (ea.trans eg))) ((hr.ex aT.o).ex (ea.trans eg)) (hs.ex ((EB.o.trans aF.o).trans (ea.trans eg))) (aF.o.trans (ea.trans eg)) ((aJ.o.trans (aL.o.trans EB.o)).trans (aF.o.trans (ea.trans eg)));have a0:=eg.cell a0;have a1:=eg.cell a1;have a2:=eg.cell a2;have bN:(wr.alloc (.cells #[p,.slice oa l.orb.length oc,.slice ra l.reps.length rc] 90)).heap.size=wr.heap.size+1:=ag;rw[bN]at g0 g1 g2;clear aO bK hl hk hp ht hu hv hr hs ea eg bN;have bH:=Aa (show(L[j]?≠K[j]?)->5=Bq D L from fun h=>bF.o fun e=>h cw);by_cases hpt:p=t
         .subst hpt;have bZ:(p !=p)=false:=by simp
          have A2:=Aa a2;have G2:=Aa g2;have aN:=Js ((wr.alloc (.cells #[p,.slice oa l.orb.length oc,.slice ra l.reps.length rc] 90)).alloc (.cells #[p,.slice pa k.orb.length pc,.slice sa k.reps.length sc] 90)) l.orb k.orb _ _ cF.o cE.o;by_cases Dy:l.orb=k.orb
          .rw[decide_eq_true Dy]at aN;have aX:=Aa aN;clear aN;by_cases hre:l.reps=k.reps
           .have HE:Hia (L[j]?=K[j]?):=Aa (by
             rw[aV.o,aW.o];have e1:=bS.o;have e2:=bT.o;cases l;cases k
             simp only at Dy hre e1 e2;rw[Dy,hre,e1,e2])
            have bJ:Hia (∀i,i<j+1->L[i]?=K[i]?):=Aa (fun i hi=>by
             by_cases e:i=j
             .subst e;exact HE.o
             .exact aD.o i ac)
            have bD:=Aa (decide_eq_true hre);clear Dy hre aD;go_wp2_with (first|(go_at_call 101;refine aX.o.mono ?_;rintro e w6⟨rfl,n6,aI⟩;have X6:=(show Ex ((wr.alloc (.cells #[p,.slice oa l.orb.length oc,.slice ra l.reps.length rc] 90)).alloc (.cells #[p,.slice pa k.orb.length pc,.slice sa k.reps.length sc] 90)) w6 from by rw[aI];exact(Ex.refl _).drewN n6);have a2:=X6.cell A2.o;have g2:=X6.cell G2.o;have aH:=D7 w6 l.reps k.reps _ _ (aU.o.ex X6) (bQ.o.ex X6);rw[bD.o]at aH;have aH:=Aa aH;have aS:=Aa X6;clear aI X6)|(go_at_call 128;refine aH.o.mono ?_;rintro e w7⟨rfl,n7,aP⟩;have bC:=Aa (aS.o.trans (show Ex w6 w7 from by rw[aP];exact(Ex.refl w6).drewN n7));clear aP))
            go_roundw
            case rel=>exact⟨j+1,ac,by go_num,bJ,Aa (cD.o.trans bC.o)⟩
            case measure=>exact Ωm
           .have HR:=Aa (bH.o (by
             rw[aV.o,aW.o];intro e;injection e with e;exact hre cw))
            have bD:=Aa (decide_eq_false hre);clear Dy hre aD;go_wp2_with (first|(go_at_call 101;refine aX.o.mono ?_;rintro e w6⟨rfl,n6,aI⟩;have X6:=(show Ex ((wr.alloc (.cells #[p,.slice oa l.orb.length oc,.slice ra l.reps.length rc] 90)).alloc (.cells #[p,.slice pa k.orb.length pc,.slice sa k.reps.length sc] 90)) w6 from by rw[aI];exact(Ex.refl _).drewN n6);have a2:=X6.cell A2.o;have g2:=X6.cell G2.o;have aH:=D7 w6 l.reps k.reps _ _ (aU.o.ex X6) (bQ.o.ex X6);rw[bD.o]at aH;have aH:=Aa aH;have aS:=Aa X6;clear aI X6)|(go_at_call 128;refine aH.o.mono ?_;rintro e w7⟨rfl,n7,aP⟩;have bC:=Aa (aS.o.trans (show Ex w6 w7 from by rw[aP];exact(Ex.refl w6).drewN n7));clear aP))
            go_ret;exact⟨Ai HR.o,bB.o.trans bC.o⟩
          .have HR:=Aa (bH.o (by
            rw[aV.o,aW.o];intro e;injection e with e;exact Dy cw))
           rw[decide_eq_false Dy]at aN;have aX:=Aa aN;clear aN Dy aD;go_wp2_with (go_at_call 101;refine aX.o.mono ?_;rintro e w6⟨rfl,n6,aI⟩;have aS:Hia (Ex ((wr.alloc (.cells #[p,.slice oa l.orb.length oc,.slice ra l.reps.length rc] 90)).alloc (.cells #[p,.slice pa k.orb.length pc,.slice sa k.reps.length sc] 90)) w6):=Aa (by rw[aI];exact(Ex.refl _).drewN n6);clear aI)
           go_ret;exact⟨Ai HR.o,bB.o.trans aS.o⟩
         .have bZ:(p !=t)=true:=by simpa using hpt
          have HR:=Aa (bH.o (by
           rw[aV.o,aW.o];intro e;injection e with e;have e1:=bS.o;have e2:=bT.o;exact hpt (by rw[<-e1,<-e2,e])))
          clear hpt;go_wp2_with fail
          go_ret;exact⟨Ai HR.o,bB.o⟩
        .obtain rfl:j=L.length:=by omega
         have HR:=Aa (bX.o (TC bV.o.symm aD.o));go_wp2_with fail
         go_ret;exact⟨Ai HR.o,aJ.o.trans ((aL.o.trans EB.o).trans aF.o)⟩
      .have hb:((K.length:Int) !=(L.length:Int))=true:=by simp;omega
       have HR:=Aa (bF.o fun e=>hkl (by rw[<-e]));clear hkl;go_wp2_with (go_at_call 123;refine bI.o.mono ?_;rintro e w5⟨⟨kv,rfl,aB⟩,aC⟩;rw[aY.o]at aB ⊢;dsimp only at aB ⊢;have cH:=Aa aB;obtain⟨ka,kc,rfl,_,_,aQ⟩:=aB.open3;have bW:=Aa aQ;have aL:=Aa (aG.o.trans aC);have d0:=(aG.o.trans aC).cell D0.o;have d1:=(aG.o.trans aC).cell D1.o;obtain⟨b0,b1,eb⟩:=CQ w5 D (.slice ka K.length kc);have e1:=eb.cell d1;have EB:=Aa eb;clear aB aQ aC eb)
       go_ret;exact⟨Ai HR.o,aJ.o.trans (aL.o.trans EB.o)⟩
     .obtain⟨E,hE⟩:=nA (Es D (Bn L));have aM:Dg D (Bn L)=(⟨0, []⟩,E):=by unfold Dg;rw[if_pos hg0,hE]
      have aY:=Aa aM;have HR:=Aa (aE.o fun h=>hg0 h.1);rw[hE]at hg0;have hb:(E !=0)=true:=by simpa using hg0
      clear aM hE hg0;go_wp2_with (go_at_call 123;refine bI.o.mono ?_;rintro e w5⟨⟨kv,rfl,aB⟩,aC⟩;rw[aY.o]at aB ⊢;dsimp only at aB ⊢;obtain⟨ka,kc,rfl,_,_,_⟩:=aB.open3;have aL:=Aa (aG.o.trans aC);have d0:=(aG.o.trans aC).cell D0.o;have d1:=(aG.o.trans aC).cell D1.o;obtain⟨b0,b1,eb⟩:=CQ w5 0 (.slice ka 0 kc);have EB:=Aa eb;clear aB aC eb)
      go_ret;exact⟨Ai HR.o,aJ.o.trans (aL.o.trans EB.o)⟩
end Go.Proofs.YtehieobniamagaaGreat
