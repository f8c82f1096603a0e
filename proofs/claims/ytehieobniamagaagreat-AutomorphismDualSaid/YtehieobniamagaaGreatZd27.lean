/- Walk of automorphism.Certify. -/
import Derived.Test.YtehieobniamagaaGreatZd26
namespace Go.Proofs.YtehieobniamagaaGreat
open Go.RowKit
set_option linter.all false
set_option maxRecDepth 100000
set_option maxHeartbeats 8000000
noncomputable def Lc(c:AU):Chn × Int:=C7 (Fa c:Int) (Ee c.p.toNat c.m.toNat c.ml (Da c (AD c)))
noncomputable def W7(c:AU)(e0:Int):Int:=if Jt c e0≠0 then Jt c e0 else(Lc c).2
def CeO(c:AU)(r:Ending)(w':World):Prop:=∃e0:Int,BN c.p c.m c.ml c.n c.rows e0/\
 ((W7 c e0≠0/\r= .returned (.tuple #[.agg #[.int .i64 0,.slice none 0 0,.slice none 0 0],.int .i64 (W7 c e0)]))∨
 (W7 c e0=0/\∃lv rv,r= .returned (.tuple #[.agg #[.int .i64 (Lc c).1.deg,lv,rv],.int .i64 0])/\EF w' lv (Lc c).1.lev/\Lo w' rv (IU c (Jg c (AD c)))))
theorem dh{P:Prop}(h:P:=by simp[results,Tryz.results32,go_sem,q0,q1,q2]):P:=h
theorem Ma(w:World)(c:AU)(m1 v1:Value)(hc:c.at w m1 v1)(aJ:(Da c (AD c)).length<=1000)(cP:(Jg c (AD c)).length<=1000)(cQ:∀M∈Da c (AD c),Om c.n.toNat M)(cO:∀g∈Jg c (AD c),ID 0 (gF c g)=0):
  Calls Tryz.prog 32 #[c.arg m1 v1] w fun r w'=>CeO c r w'/\Ex w w':=by
 obtain⟨c0,c1,c2,c3,c4⟩:=C6 w c m1 v1;have aX:=AJ w (c.obj m1 v1);have bO:=Aa (hc.ex aX);have bE:=Aa aX;obtain⟨x1,y1,cL,-,z1,-⟩:=hc.g.open;obtain⟨x3,y3,cK,-,z3,-⟩:=hc.m.open;unfold maxLen at z1 z3;obtain⟨B,hB⟩:=nA w.heap.size;have cM:(w.alloc (c.obj m1 v1)).heap.size=B+1:=by simp[hB]
 have bC:=Xb.new (w.alloc (c.obj m1 v1));have aF:Ex (w.alloc (c.obj m1 v1)) ((w.alloc (c.obj m1 v1)).alloc (.cells #[.int .i64 0,.slice none 0 0,.slice none 0 0] 53)):=(Ex.refl _).alloc _;have aO:=Aa (Iy ((w.alloc (c.obj m1 v1)).alloc (.cells #[.int .i64 0,.slice none 0 0,.slice none 0 0] 53)) c m1 v1 (hc.ex (aX.trans aF)));have aP:=Aa (fun (w5:World) (h5:Ex (w.alloc (c.obj m1 v1)) w5) (g:B6) (u r:Value) (hu:Am w5 u g.tl) (hr:Am w5 r g.sl) (FB:Nat->Prop) (h1:∀X,FB X->X<w5.heap.size) (h2:∀X,u.ownBlock=some X->¬FB X) (h3:∀X,r.ownBlock=some X->¬FB X)=>Qr w5 c c m1 m1 v1 v1 (bO.o.ex h5) (bO.o.ex h5) g.tl g.sl u r hu hr FB h1 (fun _=>h2) (fun _=>h3));rw[cM]at bC;rw[hB]at c0 c1 c2 c3 c4;replace c0:=aF.cell c0;replace c1:=aF.cell c1;replace c2:=aF.cell c2;replace c3:=aF.cell c3;replace c4:=aF.cell c4;obtain⟨bX,aC,bW,bP,aB⟩:=Of aF cM (aX.trans aF) bC (show((w.alloc (c.obj m1 v1)).alloc (.cells #[.int .i64 0,.slice none 0 0,.slice none 0 0] 53)).heap.size=B+1+1 from by simp[hB]);obtain⟨C,hC⟩:∃C:AU,C=c:=⟨_,rfl⟩;have dF:=Aa hC;have cY:=Aa (show ∀r w',CeO C r w'->CeO c r w' from fun r w' h=>by rw[<-hC];exact h);rw[<-hC]at aJ cQ cP cO;obtain⟨cp,cm,aR,cn,bV⟩:=c;unfold AU.arg at aO aP ⊢;unfold AU.obj at bE aC bW bX aO aP bP aB bO c0 c1 c2 c3 c4;dsimp only at bE aC bW bX aO aP bP aB bO c0 c1 c2 c3 c4 cL cK ⊢;rw[cL,cK]at bE aC bW bX aO aP bP aB c0 c1 c2 c3 c4 ⊢;rw[<-hC]at aO aP;obtain⟨eS,bZ,eR,dX⟩:=Eq aJ cP cQ cO;clear hc aX hC cL cK aF bC cM aJ cP cQ cO bO;have dB:=Aa (show w.heap.size<=B+1 from ac);go_enter Tryz.func32,Tryz.ntmps32
 go_upto_region 1 with fail
 try simp only[hB]
 clear hB;generalize w.alloc (.cells #[.int .i64 cp,.int .i64 cm,.slice x3 aR.length y3,.int .i64 cn,.slice x1 bV.length y1] 39)=wa at *;generalize wa.alloc (.cells #[.int .i64 0,.slice none 0 0,.slice none 0 0] 53)=w1 at *;go_wp2_with fail
 refine aO.o.mono ?_;rintro e w2⟨aZ,aD⟩;have bY:=Aa aD;obtain⟨e0,dN,ho⟩:=QO aZ;have cA:=Aa dN;replace c0:=aD.cell c0;replace c1:=aD.cell c1;replace c2:=aD.cell c2;replace c3:=aD.cell c3;replace c4:=aD.cell c4;obtain⟨q0,q1,q2,q3,cH,cG,cF⟩:=bP.o.ex aD;obtain⟨GE,cV⟩:∃x,Jt C e0=x:=⟨_,rfl⟩;rw[cV]at ho;have dC:=Aa cV;clear aZ aD dN aO cV;rcases ho with⟨h0,rfl⟩|⟨h0,bC,pn,mn,N,b,x0,mv,nv,hp,hm,hn,hN1,hN64,hD,rfl,hg,hx1,aD,hms,hns⟩
 .have hb:(GE !=0)=true:=by simpa using h0
  have HZ:=Aa (show W7 C e0=GE/\GE≠0 from by unfold W7;rw[dC.o,if_pos h0];exact⟨rfl,h0⟩);clear h0;go_wp2_with fail
  exact bodyPost_ret (v:= .tuple #[.agg #[.int .i64 0,.slice none 0 0,.slice none 0 0],.int .i64 GE]) dh rfl ⟨cY.o _ _ ⟨e0,cA.o,.inl ⟨by rw[HZ.o.1];exact HZ.o.2,by rw[HZ.o.1]⟩⟩,Ce (bW.o.trans bY.o) dB.o _ _ _⟩
 .subst h0;have eM:cn=(N:Int):=by have:=dF.o;rw[this]at hn;exact hn
  subst eM;have eX:=Aa (show e0=0 from by
   have h1:=dC.o;unfold Jt at h1;split at h1
   .rename_i h2;exact absurd h1 h2
   .rename_i h2;have h3:Ip C e0=0:=by simpa using h2
    unfold Ip at h3;split at h3
    .exact h3
    .rename_i h4;simpa using h4)
  have bI:=Aa (show C.p=pn/\C.m=mn/\C.n=N from⟨hp,hm,hn⟩);have eQ:=Aa (show C.n.toNat=N from by rw[hn];rfl);have dI:=Aa (show Lc C=C7 ((N*(pn^mn-1):Nat):Int) (Ee pn mn C.ml (Da C (AD C))) from by unfold Lc Fa;rw[hp,hm,hn];rfl);have eA:=Aa (fun (w5:World) (h5:Ex w2 w5)=>Jm w5 (hg.ex h5) N hN64 hD (Da C (AD C)) mv (hms.ex h5) (fun M hM=>by have:=eR.o M hM;rwa[eQ.o]at this) eS.o);have cX:=Aa (show W7 C e0=(Lc C).2 from by unfold W7;rw[dC.o,if_neg ag]);obtain⟨ma,mc,rfl,-,-,-⟩:=hms.open;obtain⟨na,nc,rfl,-,zn,n3⟩:=hns.open;unfold maxLen at zn;obtain⟨BS,cW⟩:∃x,Lc C=x:=⟨_,rfl⟩;have eF:=Aa cW;rw[cW]at cX dI;obtain⟨⟨bd,bl⟩,be⟩:=BS;obtain⟨LM,cU⟩:∃x,(Da C (AD C)).length=x:=⟨_,rfl⟩;have dH:=Aa (show ∀w5,Ex w2 w5->Calls Tryz.prog 64 #[.pointer (some ⟨b,0,none⟩),.int .i64 (N:Int),.slice ma LM mc] w5 fun r w'=>(∃v,r= .returned (.tuple #[.agg #[.int .i64 bd,v],.int .i64 be])/\EF w' v bl)/\Ex w5 w' from fun w5 h5=>by
   rw[<-cU];exact(eA.o w5 h5).mono (by
    rintro r w'⟨⟨v,h1,h2⟩,h3⟩;rw[<-dI.o]at h1 h2;exact⟨⟨v,h1,h2⟩,h3⟩))
  have eH:=Aa (show ∀l∈bl,2<=l.orb.length/\2<=l.reps.length/\∀r∈l.reps,2<=r.length from fun l hl=>Lb (n:=((N*(pn^mn-1):Nat):Int)) (rows:=Ee pn mn C.ml (Da C (AD C))) (by rw[<-dI.o];exact hl));obtain⟨NS,cS⟩:∃x,Jg C (AD C)=x:=⟨_,rfl⟩;have dY:=Aa cS;rw[cS]at n3 bZ dX ⊢;obtain⟨LN,cT⟩:∃x,NS.length=x:=⟨_,rfl⟩;have dZ:=Aa cT;rw[cT]at n3 bZ ⊢;have N3:=Aa n3;rw[cU];have cZ:=Aa (show ∀(w5:World) (h5:Ex wa w5) (g:B6) (u r:Value),g∈NS->Am w5 u g.tl->Am w5 r g.sl->∀(FB:Nat->Prop),(∀X,FB X->X<w5.heap.size)->(∀X,u.ownBlock=some X->¬FB X)->(∀X,r.ownBlock=some X->¬FB X)->Calls Tryz.prog 83 #[.agg #[.int .i64 cp,.int .i64 cm,.slice x3 aR.length y3,.int .i64 N,.slice x1 bV.length y1],.agg #[.int .i64 cp,.int .i64 cm,.slice x3 aR.length y3,.int .i64 N,.slice x1 bV.length y1],.agg #[u,r]] w5 fun r' w'=>RfF FB (IC 0 (gF C g)) 0 r' w'/\Ex w5 w' from fun w5 h5 g u r bA hu hr FB h1 h2 h3=>by
   refine(aP.o w5 h5 g u r hu hr FB h1 h2 h3).mono ?_;rintro r' w'⟨⟨e1,e2,k1,k2,k3⟩,k4⟩;refine⟨?_,k4⟩;have hz:=eX.o;have bB:BN cp cm aR N bV 0:=by have h1:=cA.o;rw[dF.o,hz]at h1;exact h1
   obtain rfl:e1=0:=BZ k1 bB;obtain rfl:e2=0:=BZ (k2 rfl) bB;have dK:=bI.o.1;have dL:=bI.o.2.1;rw[dF.o]at dK dL;have eK:g∈Dn N (pn^mn):=by
    rw[<-dY.o]at bA;unfold Jg AD at bA;rw[bI.o.1,bI.o.2.1,bI.o.2.2]at bA;exact(List.mem_filter.1 bA).1
   have BC:FR 0 0 (CR cp cm aR cp cm aR) N N g.tl g.sl (cp.toNat^cm.toNat)=0:=Rm (N:=N) rfl (q:=cp.toNat^cm.toNat) (by
    have h1:cp=pn:=dK;have h2:cm=mn:=dL;rw[h1,h2];exact Hz eK)
   rw[BC]at k3;have eI:=dX.o g bA;have:Gj C C g.tl g.sl=gF C g:=rfl;rw[this,eI]at k3;exact k3)
  clear bC hp hm hn hN1 hN64 hD hg hx1 aD hms hns cW cU eA n3 cS cT aP;obtain⟨OB,bU⟩:∃x,w2.heap.size=x:=⟨_,rfl⟩;have bg:=Xb.new w2;rw[bU]at bg;have bN:=Aa (show Ex w2 (w2.alloc (.cells #[.int .i64 0,.slice none 0 0,.slice none 0 0] 53)) from(Ex.refl w2).alloc _);have dG:=Aa bg;go_upto_region 5 with fail
  try simp only[bU]
  have bJ:=Aa bU;clear bU bg;generalize w2.alloc (.cells #[.int .i64 0,.slice none 0 0,.slice none 0 0] 53)=w3 at *;replace c3:=bN.o.cell c3;obtain⟨t0,t1,t2,t3,cE,cD,cC⟩:=dG.o;go_upto_region 6 with (go_at_call 64;refine(dH.o w3 bN.o).mono ?_;rintro e w6⟨⟨v6,rfl,cJ⟩,cI⟩;obtain⟨la,lc,eJ,_,_,_⟩:=cJ.open;subst eJ;clear t0 t1 t2 t3 cE cD cC;obtain⟨t0,t1,t2,t3,cE,cD,cC⟩:=dG.o.ex cI;have dT:=Aa cJ;have bG:=Aa cI;clear cJ cI)
  have dD:=Aa (dG.o.ex bG.o);have aI:=Aa (bP.o.ex (bY.o.trans (bN.o.trans bG.o)));have dJ:B+1<w6.heap.size:=(World.block_lt_of_cell? _ (⟨B+1,0,none⟩:Addr) aI.o.c0);have cB:=Aa (Tr.start (RB:=B+1) (d:=bd) (lv:= .slice la bl.length lc) dD.o dJ);have aT:=Aa (show B+1<OB from by have:=bY.o.size;have:=aB.o;have:=bJ.o;omega);have aS:=Aa (show Ex wa ((w6.setCell ⟨OB,0,none⟩ (.int .i64 bd)).setCell ⟨OB,1,none⟩ (.slice la bl.length lc)) from Jz (bX.o.trans (bY.o.trans (bN.o.trans bG.o))) (by have:=aT.o;have:=aC.o;omega) _ _);have bH:=Aa (bN.o.trans bG.o);clear t0 t1 t2 t3 cE cD cC q0 q1 q2 q3 cH cG cF dJ;obtain⟨w7,bR⟩:∃x,(w6.setCell ⟨OB,0,none⟩ (.int .i64 bd)).setCell ⟨OB,1,none⟩ (.slice la bl.length lc)=x:=⟨_,rfl⟩;rw[bR]at cB aS;have dE:=Aa (show w7.frozen? ⟨B+1,0,none⟩=false/\w7.frozen? ⟨B+1,1,none⟩=false/\w7.frozen? ⟨B+1,2,none⟩=false from by rw[<-bR];exact⟨by rw[Ay,Ay];exact aI.o.f0,by rw[Ay,Ay];exact aI.o.f1,by rw[Ay,Ay];exact aI.o.f2⟩)
  try simp only[bR]
  clear bR;have dA:=Aa (show ∀w',CU (fun X=>X=OB) w6 w'->w'.cell? ⟨B+1,0,none⟩=some (.int .i64 0)/\w'.cell? ⟨B+1,1,none⟩=some (.slice none 0 0)/\w'.cell? ⟨B+1,2,none⟩=some (.slice none 0 0) from fun w' h=>
   ⟨h.cell aI.o.c0 (by show ¬B+1=OB;have:=aT.o;omega),h.cell aI.o.c1 (by show ¬B+1=OB;have:=aT.o;omega),h.cell aI.o.c2 (by show ¬B+1=OB;have:=aT.o;omega)⟩)
  by_cases hbe:be=0
  rotate_left
  .have hb:(be !=0)=true:=by simpa using hbe
   have HZ:=Aa (show W7 C e0=be/\be≠0 from⟨cX.o,hbe⟩);obtain⟨q0,q1,q2⟩:=dA.o w7 cB.o.off;obtain⟨cH,cG,cF⟩:=dE.o;clear hbe;go_wp2_with fail
   exact bodyPost_ret (v:= .tuple #[.agg #[.int .i64 0,.slice none 0 0,.slice none 0 0],.int .i64 be]) dh rfl ⟨cY.o _ _ ⟨e0,cA.o,.inl ⟨by rw[HZ.o.1];exact HZ.o.2,by rw[HZ.o.1]⟩⟩,Ce (bE.o.trans aS.o) dB.o _ _ _⟩
  .subst hbe;go_wp2_with fail
   go_loopw [39] (fun k' wr=>∃(k:Nat) (rv:Value) (evs:List Value),k<=LN/\k'= .int .i64 k/\Hia (Tr w6 wr OB (B+1) bd (.slice la bl.length lc) rv (IU C (NS.take k)) evs)/\Hia (Ex wa wr)/\Hia (wr.frozen? ⟨B+1,0,none⟩=false/\wr.frozen? ⟨B+1,1,none⟩=false/\wr.frozen? ⟨B+1,2,none⟩=false)) (fun k' _=>LN-(intOf k').toNat)
   case atStart=>exact⟨0,_, [],ac,rfl,cB,aS,dE⟩
   case round=>
    clear cB aS dE;obtain⟨k,rv,evs,hk,rfl,aK,bQ,bT⟩:=hrel;obtain⟨ra,rc,rfl⟩:=Ad aK.o.own;by_cases hkl:k<LN
    .have aA:=Aa aK.o;have dR:=Aa bQ.o;have eW:=Aa bT.o;have aG:=Aa (show ∀(q:Addr) (u:Value),w2.cell? q=some u->wr.cell? q=some u from fun q u h=>aA.o.off.cell (bH.o.cell h) (fun e=>by
      have h1:q.block<w2.heap.size:=World.block_lt_of_cell? _ _ h;have h2:q.block=OB:=e;have:=bJ.o;omega))
     have eB:=Aa (show ∀(v:Value) (l:List Int),Am w2 v l->0<l.length->Am wr v l from fun v l h hl=>Sl.offQ (h.ex bH.o) (fun _ q hq e=>by
      have h1:=Sl.blk h (by rw[A7];exact hl) e;have h2:q=OB:=hq;have:=bJ.o;omega) aA.o.off)
     obtain⟨gb,go,rfl,dM⟩:=N3.o ac;obtain⟨g,hg⟩:∃g,NS[k]?=some g:=⟨_,List.getElem?_eq_getElem (by rw[dZ.o];exact hkl)⟩;obtain⟨u,r,d0,d1,d2,d3,d4,hu,bS,dO,dP⟩:=dM k g hg;obtain⟨eV,eU,eE,eG,HU,dW⟩:=To hg (List.mem_of_getElem? hg) (show ∀X,u.ownBlock=some X->B+1<X/\X<OB from fun X e=>⟨by have:=dO X e;have:=aB.o;omega,by have:=Sl.blk hu (by rw[A7,AM];omega) e;have:=bJ.o;omega⟩) (show ∀X,r.ownBlock=some X->B+1<X/\X<OB from fun X e=>⟨by have:=dP X e;have:=aB.o;omega,by have:=Sl.blk bS (by rw[A7,BJ];omega) e;have:=bJ.o;omega⟩) (eB.o _ _ hu (by rw[AM];omega)) (eB.o _ _ bS (by rw[BJ];omega));obtain⟨ua,uc,rfl,-,-,-⟩:=hu.open;obtain⟨qa,qc,rfl,-,-,-⟩:=bS.open;rw[AM]at d3 HU eE;rw[BJ]at d4 dW eG;replace d0:=aG.o _ _ d0;replace d1:=aG.o _ _ d1;replace d2:=aG.o _ _ d2;replace d3:=aG.o _ _ d3;replace d4:=aG.o _ _ d4;rw[show go+5*k=go+k*5 from ac]at d0;rw[show go+(5*k+1)=go+k*5+1 from ac]at d1;rw[show go+(5*k+2)=go+k*5+2 from ac]at d2;rw[show go+(5*k+3)=go+k*5+3 from ac]at d3;rw[show go+(5*k+4)=go+k*5+4 from ac]at d4;have k0:=aG.o _ _ c0;have k1:=aG.o _ _ c1;have k2:=aG.o _ _ c2;have k4:=aG.o _ _ c4;have k3:=aA.o.off.cell ((bG.o).cell c3) (show ¬B=OB from by have:=aT.o;omega);have i1:(0:Int)<=(k:Int):=by omega
     have i2:(k:Int)<(LN:Int):=ac;have bM:=Aa hkl;clear aK bQ bT hg dM hu bS dO dP hkl;go_upto_region 11 with fail
     obtain⟨XB,aM⟩:∃x,wr.heap.size=x:=⟨_,rfl⟩;have x3:(wr.alloc (.cells #[.int .i64 g.i,.int .i64 g.j,.int .i64 g.a,.slice ua (g.i+1) uc,.slice qa (g.i+1) qc] 129)).cell? ⟨XB,3,none⟩=some (.slice ua (g.i+1) uc):=by rw[<-aM];simp
     have x4:(wr.alloc (.cells #[.int .i64 g.i,.int .i64 g.j,.int .i64 g.a,.slice ua (g.i+1) uc,.slice qa (g.i+1) qc] 129)).cell? ⟨XB,4,none⟩=some (.slice qa (g.i+1) qc):=by rw[<-aM];simp
     have aW:(wr.alloc (.cells #[.int .i64 g.i,.int .i64 g.j,.int .i64 g.a,.slice ua (g.i+1) uc,.slice qa (g.i+1) qc] 129)).cell? ⟨XB,0,none⟩=some (.int .i64 g.i):=by rw[<-aM];simp
     have aV:(wr.alloc (.cells #[.int .i64 g.i,.int .i64 g.j,.int .i64 g.a,.slice ua (g.i+1) uc,.slice qa (g.i+1) qc] 129)).cell? ⟨XB,1,none⟩=some (.int .i64 g.j):=by rw[<-aM];simp
     have aU:(wr.alloc (.cells #[.int .i64 g.i,.int .i64 g.j,.int .i64 g.a,.slice ua (g.i+1) uc,.slice qa (g.i+1) qc] 129)).cell? ⟨XB,2,none⟩=some (.int .i64 g.a):=by rw[<-aM];simp
     have aE:=Aa (show Ex wr (wr.alloc (.cells #[.int .i64 g.i,.int .i64 g.j,.int .i64 g.a,.slice ua (g.i+1) uc,.slice qa (g.i+1) qc] 129)) from(Ex.refl wr).alloc _)
     try simp only[aM]
     clear aM d0 d1 d2 d3 d4 i1 i2;generalize wr.alloc (.cells #[.int .i64 g.i,.int .i64 g.j,.int .i64 g.a,.slice ua (g.i+1) uc,.slice qa (g.i+1) qc] 129)=w5 at *;replace k0:=aE.o.cell k0;replace k1:=aE.o.cell k1;replace k2:=aE.o.cell k2;replace k3:=aE.o.cell k3;replace k4:=aE.o.cell k4;obtain⟨LE,aN⟩:∃x,(IU C (NS.take k)).length=x:=⟨_,rfl⟩;have bL:=Aa (show LE<=1000 from by
      rw[<-aN];have:=bZ.o;have:=bM.o;unfold IU;rw[List.length_map,List.length_take];omega)
     have bK:=Aa aN;rw[aN]at aA;have eC:=Aa (cZ.o w5 (dR.o.trans aE.o) g _ _ eU.o (HU.o.ex aE.o) (dW.o.ex aE.o) (fun X=>X=OB∨X=B+1∨(Value.slice ra LE rc).ownBlock=some X)
      (fun X hX=>by
       have h1:=aE.o.size;have h2:=aA.o.size;have h3:=aA.o.ob;have h4:=aA.o.rb;rcases hX with hX|hX|hX
       .omega
       .omega
       .have:=(aA.o.own.lt X hX).2;omega)
      (fun X e hX=>by
       have h3:=aA.o.ob;obtain⟨h1,h2⟩:=eE.o X e;rcases hX with hX|hX|hX
       .omega
       .omega
       .have:=(aA.o.own.lt X hX).1;omega)
      (fun X e hX=>by
       have h3:=aA.o.ob;obtain⟨h1,h2⟩:=eG.o X e;rcases hX with hX|hX|hX
       .omega
       .omega
       .have:=(aA.o.own.lt X hX).1;omega))
     clear aN;go_wp2_with fail
     refine eC.o.mono ?_;rintro e w9⟨⟨ev,rfl,cN⟩,aY⟩;have dV:=Aa cN;obtain⟨-,-,⟨-,ea,ec,eL,-⟩,-⟩:=cN.g.rsl;subst eL;obtain⟨LP,dQ⟩:∃x,(IC 0 (gF C g)).length=x:=⟨_,rfl⟩;rw[dQ]at dV ⊢;replace aW:=aY.cell aW;replace aV:=aY.cell aV;replace aU:=aY.cell aU;have bF:=Aa (show Ex w9 (w9.alloc (.cells #[.slice ea LP ec] 94)) from(Ex.refl w9).alloc _);have t0:(w9.alloc (.cells #[.slice ea LP ec] 94)).cell? ⟨w9.heap.size,0,none⟩=some (.slice ea LP ec):=ag;obtain⟨TB,cR⟩:∃x,w9.heap.size=x:=⟨_,rfl⟩;rw[cR]at t0;have aH:=Aa (aE.o.trans (aY.trans bF.o));replace aW:=bF.o.cell aW;replace aV:=bF.o.cell aV;replace aU:=bF.o.cell aU;have eO:=Aa (dV.o.g.off (.ex bF.o) fun X _ hX=>hX);clear cN dQ aY eC k0 k1 k2 k3 k4 x3 x4;go_upto_region 12 with fail
     try simp only[cR]
     clear cR;generalize w9.alloc (.cells #[.slice ea LP ec] 94)=w10 at *;have aQ:=Aa (aA.o.later aH.o);have b2:=aQ.o.b2;have eP:=Aa (show w10.ownsRow w6.heap.size 96 4 (.slice ra LE rc) LE (NZ (IU C (NS.take k)) evs) from by have:=aQ.o.own;rwa[bK.o]at this);have eN:=Aa aQ.o.size;have hk64:k<=1048576:=by have:=bM.o;have:=bZ.o;omega
     go_wp2_with (at_builtin;refine Al _ rfl _ _ 51 rfl w6.heap.size 96 (.agg #[.int .i64 0,.int .i64 0,.int .i64 0,.slice none 0 0]) 4 48 Tryz.underlying51 YC rfl ae _ LE _ rfl eP.o [.int .i64 (g.i:Int),.int .i64 (g.j:Int),.int .i64 (g.a:Int),.slice ea LP ec] 96 _ rfl ag rfl aj (by have:=bL.o;unfold maxLen;omega) (by have:=bL.o;omega) eN.o ?_)
     intro v8 w8 aL;have bD:Bn w10 w8 w6.heap.size 96 4 (.slice ra LE rc) v8 (IU C (NS.take k)).length (NZ (IU C (NS.take k)) evs) [.int .i64 (Ug C g).i,.int .i64 (Ug C g).j,.int .i64 (Ug C g).a,.slice ea LP ec]:=by rw[bK.o];exact aL
     obtain⟨cc2,ff2,hn⟩:=aQ.o.app (x:=Ug C g) eO.o bD;rw[show IU C (NS.take k) ++ [Ug C g]=IU C (NS.take (k+1)) from by unfold IU;rw[List.take_add_one,eV.o,List.map_append];rfl]at hn;have HN:=Aa hn;have dS:=Aa (show Ex wa (w8.setCell ⟨OB,2,none⟩ v8) from(aL.ex (dR.o.trans aH.o) (by have:=aA.o.rb;have:=aC.o;omega)).setCell (p:=⟨OB,2,none⟩) (by have:=aT.o;have:=aC.o;show wa.heap.size<=OB;omega) _);have eD:=Aa (show(w8.setCell ⟨OB,2,none⟩ v8).frozen? ⟨B+1,0,none⟩=false/\(w8.setCell ⟨OB,2,none⟩ v8).frozen? ⟨B+1,1,none⟩=false/\(w8.setCell ⟨OB,2,none⟩ v8).frozen? ⟨B+1,2,none⟩=false from by
      obtain⟨h0,h1,h2⟩:=dA.o wr aA.o.off;obtain⟨f0,f1,f2⟩:=eW.o;rw[Ay,Ay,Ay];exact⟨aL.frz (aH.o.cell h0) (aH.o.frz h0 f0) aQ.o.no.2,aL.frz (aH.o.cell h1) (aH.o.frz h1 f1) aQ.o.no.2,aL.frz (aH.o.cell h2) (aH.o.frz h2 f2) aQ.o.no.2⟩)
     obtain⟨na8,nc8,rfl⟩:=Ad aL.own;clear aL bD hn aW aV aU t0 b2;go_wp2_with fail
     go_roundw
     case rel=>first|exact⟨k+1,_,_,by have:=bM.o;omega,by go_num,HN,dS,eD⟩|((repeat apply Exists.intro);exact⟨⟨k+1,_,_,by have:=bM.o;omega,by go_num,HN,dS,eD⟩,rfl⟩)
     case measure=>have:=bM.o;simp[intOf];omega
    .obtain rfl:LN=k:=by omega
     have dU:=Aa (show NS.take LN=NS from List.take_of_length_le (by rw[dZ.o];exact Nat.le_refl _));obtain⟨LE,aN⟩:∃x,(IU C (NS.take LN)).length=x:=⟨_,rfl⟩;rw[aN]at aK;rw[dU.o]at aK;have aA:=Aa aK.o;have aS:=Aa bQ.o;have HLV:=Aa (show EF wr (.slice la bl.length lc) bl from EF.offQ (Q:=fun X=>X=OB) (fun q hq=>by rw[hq];exact dD.o) dT.o eH.o aA.o.off);have eT:=Aa (show ∀u v z,EF (((wr.setCell ⟨B+1,0,none⟩ u).setCell ⟨B+1,1,none⟩ v).setCell ⟨B+1,2,none⟩ z) (.slice la bl.length lc) bl from fun u v z=>EF.offQ (Q:=fun X=>X=OB∨X=B+1) (fun q hq=>by rcases hq with hq|hq <;> rw[hq];exact dD.o;exact aI.o) dT.o eH.o ((aA.o.off.mono fun X _ h=> .inl h).trans ((J3 u v z).mono fun X _ h=> .inr h) aA.o.size));obtain⟨q0,q1,q2⟩:=dA.o wr aA.o.off;obtain⟨cH,cG,cF⟩:=bT.o;have d0:=aA.o.b0;have d1:=aA.o.b1;have d2:=aA.o.b2;clear aK bQ bT aN dU;go_wp2_with fail
     exact bodyPost_ret (v:= .tuple #[.agg #[.int .i64 bd,.slice la bl.length lc,.slice ra LE rc],.int .i64 0]) dh rfl ⟨cY.o _ _ ⟨e0,cA.o,.inr ⟨cX.o,_,_,by rw[eF.o],by rw[eF.o];exact eT.o _ _ _,by rw[dY.o];exact aA.o.fin _ _ _⟩⟩,Ce (bE.o.trans aS.o) dB.o _ _ _⟩
def G7(p m:Nat)(N:Nat)(P:List Int):List Int:=il N (FS (p^m-1) P)
def G6(p m:Nat)(N:Nat)(P:List Int):List Int:=il N (Gi (p^m-1) P)
open Classical in
noncomputable def FX (p m:Nat) (ml:List Int) (N:Nat) (rows:List (List Int)) (P:List Int):Bool:=
 decide (Uf p m ml N P=true/\Ey p m ml N (G7 p m N P) (G6 p m N P) 0=0/\∃(piv:List Nat) (a':Nat->Nat->Int),
  Iq p m ml N (IR p m ml (G7 p m N P) (G6 p m N P) 0 N rows rows.length).length (Ak (IR p m ml (G7 p m N P) (G6 p m N P) 0 N rows rows.length)) a' piv/\rows=Av N piv.length a')
theorem Pn{p m:Nat}{ml:List Int}{N:Nat}{rows:List (List Int)}{P:List Int}:FX p m ml N rows P=true↔(Uf p m ml N P=true/\Ey p m ml N (G7 p m N P) (G6 p m N P) 0=0/\∃(piv:List Nat) (a':Nat->Nat->Int),
  Iq p m ml N (IR p m ml (G7 p m N P) (G6 p m N P) 0 N rows rows.length).length (Ak (IR p m ml (G7 p m N P) (G6 p m N P) 0 N rows rows.length)) a' piv/\rows=Av N piv.length a'):=by
 unfold FX;simp only[decide_eq_true_eq]
theorem du{P:Prop}(h:P:=by simp[results,Tryz.results73,go_sem]):P:=h
theorem Rc(w:World){b p m x0 N:Nat}{ml:List Int}{rows:List (List Int)}(hg:A9 w b p m ml x0)(bK:1<=N)(hN:N<=64)(hd:N*(p^m-1)<=64)(ho:BN p m ml N rows 0)(m1 v1:Value)(hc:(⟨p,m,ml,N,rows⟩:AU).at w m1 v1)(P:List Int)(pv:Value)(hp:Am w pv P)(aF:P.length=N*(p^m-1))(aW:∀x∈P,0<=x/\x<(P.length:Int)):
  Calls Tryz.prog 73 #[.pointer (some ⟨b,0,none⟩),(⟨p,m,ml,N,rows⟩:AU).arg m1 v1,pv] w fun r w'=>r= .returned (.bool (FX p m ml N rows P))/\Ex w w':=by
 obtain⟨c0,c1,c2,c3,c4⟩:=C6 w ⟨p,m,ml,N,rows⟩ m1 v1;have aE:=AJ w ((⟨p,m,ml,N,rows⟩:AU).obj m1 v1);have HG:=Aa (hg.ex aE);have aI:=Aa (hc.ex aE);have HP:=Aa (hp.ex aE);have aN:=Aa (PM (w.alloc ((⟨p,m,ml,N,rows⟩:AU).obj m1 v1)) HG.o N bK hN P pv HP.o hd aF aW);obtain⟨x1,y1,bJ,-,z1,-⟩:=hc.g.open;obtain⟨x3,y3,bI,-,z3,-⟩:=hc.m.open;obtain⟨x5,y5,bH,-,z5,-⟩:=hp.open;unfold maxLen at z1 z3 z5;have aU:=Aa (fun (w5:World) (h5:Ex (w.alloc ((⟨p,m,ml,N,rows⟩:AU).obj m1 v1)) w5) (u r:Value) (hu:Am w5 u (G7 p m N P)) (hr:Am w5 r (G6 p m N P))=>Uy w5 p m ml m1 (aI.o.ex h5).m N rows v1 (aI.o.ex h5).g _ _ u r hu hr 0);have aM:=Aa (show ∀q:Bool,(q=true↔(Uf p m ml N P=true/\Ey p m ml N (G7 p m N P) (G6 p m N P) 0=0/\∃(piv:List Nat) (a':Nat->Nat->Int),Iq p m ml N (IR p m ml (G7 p m N P) (G6 p m N P) 0 N rows rows.length).length (Ak (IR p m ml (G7 p m N P) (G6 p m N P) 0 N rows rows.length)) a' piv/\rows=Av N piv.length a'))->q=FX p m ml N rows P from fun q h=>
  Bool.eq_iff_iff.2 (h.trans Pn.symm))
 obtain⟨MB,bA⟩:∃x,FX p m ml N rows P=x:=⟨_,rfl⟩;rw[bA]at aM ⊢;obtain⟨B,hB⟩:=nA w.heap.size;rw[hB]at c0 c1 c2 c3 c4;have aH:=Aa aE;unfold AU.arg;unfold AU.obj at aH aN aU aI HG HP c0 c1 c2 c3 c4;dsimp only at aH aN aU aI HG HP c0 c1 c2 c3 c4 ⊢;subst bJ bI bH;have HO:=Aa ho;have HRW:=Aa hc.g;clear hc aE hg hp ho bA aF aW hd;go_enter Tryz.func73,Tryz.ntmps73
 go_upto_region 1 with fail
 try simp only[hB]
 clear hB;generalize w.alloc _=w1 at *;have bE:=Aa aN.o;go_wp2_with fail
 refine bE.o.mono ?_;rintro e w2⟨u,v,rfl,hu,hv,-,aA⟩;have HU:=Aa (show Am w2 u (G7 p m N P) from hu);have HV:=Aa (show Am w2 v (G6 p m N P) from hv);obtain⟨ua,uc,rfl,-,-,-⟩:=hu.open;obtain⟨va,vc,rfl,-,-,-⟩:=hv.open;simp only[An]at HU HV ⊢;obtain⟨FB,aQ⟩:∃x,Uf p m ml N P=x:=⟨_,rfl⟩;have bD:=Aa aQ;rw[aQ];replace c0:=aA.cell c0;replace c1:=aA.cell c1;replace c2:=aA.cell c2;replace c3:=aA.cell c3;replace c4:=aA.cell c4;obtain⟨t0,t1,t2,et⟩:=Bo w2 (.slice ua N uc) (.slice va N vc) 0;obtain⟨TB,aP⟩:∃x,w2.heap.size=x:=⟨_,rfl⟩;rw[aP]at t0 t1 t2;have aL:=Aa (aA.trans et);replace c0:=et.cell c0;replace c1:=et.cell c1;replace c2:=et.cell c2;replace c3:=et.cell c3;replace c4:=et.cell c4;have bN:=Aa (HU.o.ex et);have bM:=Aa (HV.o.ex et);clear hu hv aA et aN bE aQ HU HV;go_upto_region 2 with fail
 try simp only[aP]
 clear aP;generalize w2.alloc (.cells #[.slice ua N uc,.slice va N vc,.int .i64 0] 26)=w3 at *;have bG:=Aa (aU.o w3 aL.o _ _ bN.o bM.o);by_cases hf:FB=true
 rotate_left
 .obtain rfl:FB=false:=by cases FB with
   | true=>exact absurd rfl hf
   | false=>rfl
  have HM:=Aa (aM.o false ⟨fun h=>bi,fun h=>(by have:=h.1.symm.trans bD.o;cases this)⟩);clear hf;go_wp2_with fail
  exact bodyPost_ret (v:= .bool false) du rfl ⟨by rw[HM.o],aH.o.trans aL.o⟩
 .subst hf;by_cases hm0:Ey p m ml N (G7 p m N P) (G6 p m N P) 0=0
  .have aB:=Aa hm0;clear hm0;go_wp2_with fail
   refine bG.o.mono ?_;rintro e w4⟨aG,aD⟩;obtain⟨piv,a',rv,v',rfl,aY,aV,aJ⟩:=app_ok (fr:=0) (show AppR p m ml N rows _ _ ((0:Nat):Int) _ _ _ from aG) HO.o aB.o;have bF:=Aa aY;obtain⟨M,hM⟩:∃x,Av N piv.length a'=x:=⟨_,rfl⟩;rw[hM]at aJ;have bC:=Aa hM;obtain⟨d0,d1,d2,d3,d4⟩:=C6 w4 ⟨p,m,ml,N,M⟩ v' rv;have aC:=AJ w4 ((⟨p,m,ml,N,M⟩:AU).obj v' rv);have aT:=Aa (aJ.ex aC);obtain⟨a6,b6,rfl,-,-,-⟩:=aV.open;obtain⟨a7,b7,rfl,-,-,-⟩:=aJ.open;unfold AU.obj at d0 d1 d2 d3 d4 aC aT;dsimp only at d0 d1 d2 d3 d4 aC aT;obtain⟨DB,aS⟩:∃x,w4.heap.size=x:=⟨_,rfl⟩;rw[aS]at d0 d1 d2 d3 d4;have aK:=Aa (aL.o.trans (aD.trans aC));replace c4:=aC.cell (aD.cell c4);clear aG aY hM aV aJ aC aD c0 c1 c2 c3 t0 t1 t2;go_upto_region 5 with fail
   try simp only[aS]
   clear aS;generalize w4.alloc (.cells #[.int .i64 p,.int .i64 m,.slice a6 ml.length b6,.int .i64 N,.slice a7 M.length b7] 39)=w5 at *;have HQ:=Aa (DU w5 rows M _ _ (aI.o.ex aK.o).g aT.o);have HM:=Aa (aM.o (decide (rows=M)) ⟨fun h=>⟨bD.o,aB.o,piv,a',bF.o,by rw[bC.o];exact of_decide_eq_true h⟩,fun h=>by
    obtain⟨-,-,piv2,a2,h1,h2⟩:=h;obtain⟨_,_,_,_,g1,g2,g3,g4,-,-,aZ⟩:=Pk aB.o;obtain rfl:p=_:=Int.ofNat.inj g1;obtain rfl:m=_:=Int.ofNat.inj g2;have:=(PX aZ.hp aZ.hm (fun x=>Iff.rfl) h1 bF.o).1;exact decide_eq_true (by rw[h2,this,bC.o])⟩)
   clear d0 d1 d2 d3;obtain⟨DD,bB⟩:∃x,decide (rows=M)=x:=⟨_,rfl⟩;rw[bB]at HQ HM;clear bB;go_wp2_with fail
   refine HQ.o.mono ?_;rintro e w6⟨rfl,n6,rfl⟩;have bL:=Aa (aK.o.drewN n6);clear c4 d4;go_wp2_with fail
   exact bodyPost_ret (v:= .bool DD) du rfl ⟨by rw[HM.o],aH.o.trans bL.o⟩
  .have aB:=Aa hm0;have HM:=Aa (aM.o false ⟨fun h=>bi,fun h=>absurd h.2.1 aB.o⟩);obtain⟨EE,aR⟩:∃x,Ey p m ml N (G7 p m N P) (G6 p m N P) 0=x:=⟨_,rfl⟩;have bO:=Aa aR;have hb:(EE==0)=false:=by
    have h1:=aB.o;rw[aR]at h1;simpa using h1
   clear hm0 aR;go_wp2_with fail
   refine bG.o.mono ?_;rintro e w4⟨⟨e1,aX,aG⟩,aD⟩;obtain rfl:=BZ aX HO.o;have aO:e= .returned (.tuple #[.agg #[.int .i64 0,.int .i64 0,.slice none 0 0,.int .i64 0,.slice none 0 0],.int .i64 EE]):=by
    rcases aG with⟨h,_⟩|⟨_,_,h⟩|⟨_,h,_⟩
    .exact absurd rfl h
    .rw[bO.o]at h;exact h
    .exact absurd h aB.o
   subst aO;have aK:=Aa (aL.o.trans (aD.trans (AJ w4 (.cells #[.int .i64 0,.int .i64 0,.slice none 0 0,.int .i64 0,.slice none 0 0] 39))));clear aG aX aD c0 c1 c2 c3 c4 t0 t1 t2;go_wp2_with fail
   exact bodyPost_ret (v:= .bool false) du rfl ⟨by rw[HM.o],aH.o.trans aK.o⟩
def Di(x:Nat):Prop:=x<BK^200
theorem Di.len{x n:Nat}{f:Nat->Nat}(h:Di x)(hc:I9 n f)(hv:vS f n=x):n<=1000:=Nat.le_trans (hc.len (by rw[hv];exact h)) ac
theorem Gu{x:Nat}(h:x<18446744073709551616):Di x:=by
 have h1:(18446744073709551616:Nat)=BK^2:=ae;have h2:BK^2<=BK^200:=Nat.pow_le_pow_right Ig ac;unfold Di;omega
theorem WF:I9 1 fun _=>1:=⟨fun _ _=>ae,fun _ _=>ac⟩
theorem ZN:vS (fun _=>1) 1=1:=ae
def NMl(w:World)(v:Value)(xs:List Nat):Prop:=∃vals:List Value,Sl w v xs.length 1 vals/\∀(i x:Nat) (u:Value),xs[i]?=some x->vals[i]?=some u->Il w u x
theorem NMl.open{w:World}{v:Value}{xs:List Nat}(h:NMl w v xs):∃a cap,v= .slice a xs.length cap/\xs.length<=cap/\cap<=maxLen/\
  (0<xs.length->∃b o,a=some ⟨b,o,none⟩/\∀(i x:Nat),xs[i]?=some x->∃u,w.cell? ⟨b,o+i,none⟩=some u/\Il w u x):=by
 obtain⟨vals,⟨h1,a,cap,h2,h3,h4,h5⟩,h6⟩:=h;refine⟨a,cap,h2,h3,h4,fun hn=>?_⟩;obtain⟨b,o,h7,h8⟩:=h5 hn;refine⟨b,o,h7,fun i x hx=>?_⟩;have hi:=(List.getElem?_eq_some_iff.1 hx).1;have hu:vals[i]?=some vals[i]:=List.getElem?_eq_getElem ac;exact⟨_,h8 i _ hu,h6 i x _ hx hu⟩
def Jj:List Nat->Nat:=fun xs=>xs.foldl (·* ·) 1
theorem Ki{xs:List Nat}{k x:Nat}(h:xs[k]?=some x):Jj (xs.take (k+1))=Jj (xs.take k)*x:=by
 unfold Jj;rw[List.take_add_one,h,List.foldl_append];rfl
theorem Vv(w:World)(xs:List Nat)(v:Value)(hv:NMl w v xs)(aM:∀x∈xs,Di x)(hp:∀k,k<=xs.length->Di (Jj (xs.take k))):
  Calls Tryz.prog 41 #[v] w fun r w'=>(∃u,r= .returned u/\Il w' u (Jj xs))/\Ex w w':=by
 obtain⟨a,cap,rfl,s1,s2,s3⟩:=hv.open;unfold maxLen at s2;have S3:=Aa s3;have aT:=Aa aM;have HP:=Aa hp;clear hv s3 aM hp;have ea:=(Ex.refl w).alloc (.cells #[.int .u32 1] 91);have q0:(w.alloc (.cells #[.int .u32 1] 91)).cell? ⟨w.heap.size,0,none⟩=some (.int .u32 1):=ag;have H1:=Aa (show Il (w.alloc (.cells #[.int .u32 1] 91)) (.slice (some ⟨w.heap.size,0,none⟩) 1 1) 1 from⟨1,_,WF,ZN,NL.mk (Nat.le_refl _) ai fun _=>⟨_,0,rfl,fun j hj=>by
  obtain rfl:j=0:=ac;exact q0⟩⟩)
 have EA:=Aa ea;clear ea q0;go_enter Tryz.func41,Tryz.ntmps41
 go_wp2_with fail
 go_loopw [3,9] (fun p' k' wr=>∃(k:Nat),k<=xs.length/\k'= .int .i64 k/\Hia (Il wr p' (Jj (xs.take k)))/\Hia (Ex w wr)) (fun _ k' _=>xs.length-(intOf k').toNat)
 case atStart=>exact⟨0,ac,rfl,H1,EA⟩
 case round=>
  clear H1 EA;obtain⟨k,hk,rfl,hn,aF⟩:=hrel;have aV:=Aa (HP.o k hk);obtain⟨n,f,aE,aD,aC⟩:=hn.o;have hn1:=aV.o.len aE aD;obtain⟨pa,pc,rfl,_,_,_⟩:=aC.open;by_cases hkn:k<xs.length
  .obtain⟨x,hx⟩:∃x,xs[k]?=some x:=⟨_,List.getElem?_eq_getElem hkn⟩;obtain⟨b,o,rfl,hc⟩:=S3.o ac;obtain⟨u,hu,aR⟩:=hc k x hx;have c1:=aF.o.cell hu;obtain⟨m,g,aJ,aI,aH⟩:=aR;have hm1:=(aT.o x (List.mem_of_getElem? hx)).len aJ aI;have i1:(0:Int)<=(k:Int):=by omega
   have i2:(k:Int)<(xs.length:Int):=ac;obtain⟨aW,aU,aX,aZ,aY⟩:=Of (Gb _ m g u (aH.ex aF.o) aJ.lt) (fun u' m' (aN:m'<=m) (aS:I9 m' g) (h:NL _ u' m' g)=>Ts _ n m' f g _ _ aC h aE.lt aS.lt ac ac) (Ki hx) aD aI;obtain⟨ya,yc,rfl,_,_,_⟩:=aH.open;clear hc hu hx aE aD aC aJ aI aH;go_wp2_with (first|(go_at_call 87;refine aW.o.mono ?_;rintro e w5⟨⟨u,m',rfl,aN,aP,aO,aG⟩,rfl⟩;obtain⟨oa,oc,rfl,_,_,_⟩:=aG.open;have aQ:=Aa (aU.o _ m' aN aP aG);rw[aZ.o,aO,aY.o]at aQ;clear aP aO aG)|(go_at_call 95;refine aQ.o.mono ?_;rintro e w6⟨⟨u6,rfl,aA⟩,aB⟩;obtain⟨_,_,_,_,h6⟩:=id aA;obtain⟨oa,oc,rfl,_,_,_⟩:=h6.open;have aL:=Aa aA;have aK:=Aa (aF.o.trans aB);clear aA h6 aB))
   go_roundw
   case rel=>exact⟨k+1,ac,by go_num,by rw[aX.o];exact aL,aK⟩
   case measure=>simp[intOf];omega
  .obtain rfl:k=xs.length:=by omega
   have hT:=Ql wr n f _ aC aE.lt ac;rw[aD,List.take_length]at hT;have HT:=Aa hT;clear hT aE aD aC;go_wp2_with (go_at_call 96;refine HT.o.mono ?_;rintro e w6⟨⟨u6,rfl,aA⟩,aB⟩;obtain⟨_,_,_,_,h6⟩:=id aA;obtain⟨oa,oc,rfl,_,_,_⟩:=h6.open;have aL:=Aa aA;have aK:=Aa (aF.o.trans aB);clear aA h6 aB)
   go_ret;exact⟨⟨_,rfl,aL.o⟩,aK.o⟩
theorem zct{P:Prop}(h:P:=by
 go_enter Tryz.func110,Tryz.ntmps110
 exact zc4):P:=h
theorem Pp(w:World)(n i:Nat)(f:Nat->Nat)(v:Value)(hv:NL w v n f)(aA:∀k,k<n->f k<BK)(hi:i<=10000):
  Calls Tryz.prog 110 #[v,.int .i64 i] w fun r w'=>r= .returned (.int .u64 ((if i<n then f i else 0:Nat):Int))/\w'=w:=by
 obtain⟨a,cap,rfl,s1,s2,s3⟩:=hv.open;have S3:=Aa s3;unfold maxLen at s2;clear hv s3;by_cases hin:i<n
 .obtain⟨b,o,rfl,hc⟩:=S3.o ac;have c1:=hc i hin;rw[if_pos hin];have hb:f i<4294967296:=aA i hin;have e1:IntKind.u64.wrap (f i:Int)=(f i:Int):=by rw[IntKind.wrap_u64];omega
  have i1:(0:Int)<=(i:Int):=ac;have i2:(i:Int)<(n:Int):=ac;clear hc aA hb;exact zct
 .rw[if_neg hin];have i2:¬(i:Int)<(n:Int):=by omega
  clear aA;exact zct
def Pr(n:Nat)(f:Nat->Nat)(i:Nat):Nat:=if i<n then f i else 0
theorem VJ{n m:Nat}(f:Nat->Nat)(h:n<=m):vS (Pr n f) m=vS f n:=by
 rw[M7 h fun k h1 _=>by unfold Pr;rw[if_neg ac]];exact Hj fun k hk=>by unfold Pr;rw[if_pos hk]
theorem Vf(w:World)(x y:Nat)(u v:Value)(hu:Il w u x)(hv:Il w v y)(hx:Di x)(hy:Di y):
  Calls Tryz.prog 50 #[u,v] w fun r w'=>(∃z:Int,r= .returned (.int .i64 z)/\(z=0↔x=y))/\w'=w:=by
 obtain⟨n,f,aE,aD,aI⟩:=hu;obtain⟨m,g,aC,aB,aH⟩:=hv;have hn:=hx.len aE aD;have hm:=hy.len aC aB;have aP:=Aa (fun i (hi:i<=10000)=>Pp w n i f u aI aE.lt hi);have aO:=Aa (fun i (hi:i<=10000)=>Pp w m i g v aH aC.lt hi);have aQ:=Aa (show(∀i,Pr n f i=Pr m g i)->x=y from fun h=>by
  rw[<-aD,<-aB,<-VJ f (Nat.le_max_left n m),<-VJ g (Nat.le_max_right n m)];exact Hj fun k _=>h k)
 have aN:=Aa (show ∀i,Pr n f i≠Pr m g i->¬x=y from fun i h e=>by
  obtain⟨h1,h2⟩:=aE.uniq aC (by rw[aD,aB,e]);subst h1;refine h ?_;unfold Pr;split
  .exact h2 i ac
  .rfl)
 obtain⟨ua,uc,rfl,_,_,_⟩:=aI.open;obtain⟨va,vc,rfl,_,_,_⟩:=aH.open;clear aE aD aI aC aB aH hx hy;have aR:=Aa (show(∀i,i<n∨i<m->Pr n f i=Pr m g i)->x=y from fun h=>aQ.o fun i=>by
  by_cases hi:i<n∨i<m
  .exact h i hi
  .unfold Pr;rw[if_neg ac,if_neg ac])
 go_enter Tryz.func50,Tryz.ntmps50
 go_wp2_with fail
 all_goals
  go_loopw [5] (fun i' wr=>∃i:Nat,i<=1000/\i'= .int .i64 ((i:Int)-1)/\wr=w/\Hia (∀k,i<=k->k<n∨k<m->Pr n f k=Pr m g k)) (fun i' _=>((intOf i')+1).toNat)
  case atStart=>first|exact⟨n,ac,rfl,rfl,Aa (fun k h1 h2=>ac)⟩|exact⟨m,ac,rfl,rfl,Aa (fun k h1 h2=>ac)⟩|exact⟨max n m,ac,congrArg (Value.int .i64) (ac),rfl,Aa (fun k h1 h2=>ac)⟩
  case round=>
   obtain⟨i,hi,rfl,rfl,aA⟩:=hrel
   cases i with
   | zero=>
    have HE:=Aa (aR.o fun k hk=>aA.o k (Nat.zero_le _) hk);go_wp2_with fail
    go_ret;exact⟨⟨0,rfl,fun _=>HE.o,fun _=>rfl⟩,rfl⟩
   | succ k=>
    have aK:((k+1:Nat):Int)-1=(k:Int):=ac;rw[aK];have i1:(0:Int)<=(k:Int):=ac;have L1:=Aa (aP.o k ac);have L2:=Aa (aO.o k ac);have aJ:=Aa (aN.o k);obtain⟨p,hp⟩:=nA ((if k<n then f k else 0));obtain⟨q,hq⟩:=nA ((if k<m then g k else 0));rw[hp]at L1;rw[hq]at L2;have aG:Pr n f k=p:=hp;have aF:Pr m g k=q:=hq;rw[aG,aF]at aJ;have aL:=Aa (show p=q->∀j,k<=j->j<n∨j<m->Pr n f j=Pr m g j from fun e j h1 h2=>by
     by_cases e2:j=k
     .subst e2;rw[aG,aF,e]
     .exact aA.o j ac h2)
    clear hp hq aG aF aA;rcases Nat.lt_trichotomy p q with h|h|h
    .have HN:=Aa (aJ.o ac);have h1:(p:Int)<(q:Int):=by omega
     go_wp2_with (go_at_call 110;first|(with_reducible refine L1.o.mono ?_;rintro e w2⟨rfl,rfl⟩)|(with_reducible refine L2.o.mono ?_;rintro e w2⟨rfl,rfl⟩))
     go_ret;exact⟨⟨-1,rfl,fun h=>ac,fun h=>absurd h HN.o⟩,rfl⟩
    .subst h;have aM:=Aa (aL.o rfl);have h1:¬(p:Int)<(p:Int):=by omega
     go_wp2_with (go_at_call 110;first|(with_reducible refine L1.o.mono ?_;rintro e w2⟨rfl,rfl⟩)|(with_reducible refine L2.o.mono ?_;rintro e w2⟨rfl,rfl⟩))
     go_roundw
     case rel=>exact⟨k,ac,by go_num,trivial,aM⟩
     case measure=>simp[intOf]
    .have HN:=Aa (aJ.o ac);have h1:¬(p:Int)<(q:Int):=by omega
     have h2:(q:Int)<(p:Int):=ac;go_wp2_with (go_at_call 110;first|(with_reducible refine L1.o.mono ?_;rintro e w2⟨rfl,rfl⟩)|(with_reducible refine L2.o.mono ?_;rintro e w2⟨rfl,rfl⟩))
     go_ret;exact⟨⟨1,rfl,fun h=>ac,fun h=>absurd h HN.o⟩,rfl⟩
end Go.Proofs.YtehieobniamagaaGreat
