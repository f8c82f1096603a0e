/- Walk of automorphism.Certify. -/
import Derived.Test.YtehieobniamagaaGreatZa32
namespace Go.Proofs.YtehieobniamagaaGreat
open Go.RowKit
set_option linter.all false
set_option maxRecDepth 100000
set_option maxHeartbeats 8000000
noncomputable def MG(c:AU):Z1 × Int:=CU (JS c:Int) (Ed c.p.toNat c.m.toNat c.ml (Dj c (AA c)))
noncomputable def UM(c:AU)(e0:Int):Int:=if JF c e0≠0 then JF c e0 else(MG c).2
def Z2(c:AU)(r:Ending)(w':World):Prop:=∃e0:Int,Ce c.p c.m c.ml c.n c.rows e0/\
 ((UM c e0≠0/\r= .returned (.tuple #[.agg #[.int .i64 0,.slice none 0 0,.slice none 0 0],.int .i64 (UM c e0)]))∨
 (UM c e0=0/\∃lv rv,r= .returned (.tuple #[.agg #[.int .i64 (MG c).1.deg,lv,rv],.int .i64 0])/\D6 w' lv (MG c).1.lev/\J7 w' rv (Hq c (Ic c (AA c)))))
theorem dh{P:Prop}(h:P:=by simp[results,Tryz.results32,go_sem,q0,q1,q2]):P:=h
theorem Kt(w:World)(c:AU)(m1 v1:Value)(hc:c.at w m1 v1)(aJ:(Dj c (AA c)).length<=1000)(cP:(Ic c (AA c)).length<=1000)(cQ:∀M∈Dj c (AA c),R5 c.n.toNat M)(cO:∀g∈Ic c (AA c),He 0 (gF c g)=0):
  Calls Tryz.prog 32 #[c.arg m1 v1] w fun r w'=>Z2 c r w'/\Ex w w':=by
 obtain⟨c0,c1,c2,c3,c4⟩:=Dp w c m1 v1;have aX:=AE w (c.obj m1 v1);have bO:=Aa (hc.ex aX);have bE:=Aa aX;obtain⟨x1,y1,cL,-,z1,-⟩:=hc.g.open;obtain⟨x3,y3,cK,-,z3,-⟩:=hc.m.open;unfold maxLen at z1 z3;obtain⟨B,hB⟩:=nA w.heap.size;have cM:(w.alloc (c.obj m1 v1)).heap.size=B+1:=by simp[hB]
 have bC:=UO.new (w.alloc (c.obj m1 v1));have aF:Ex (w.alloc (c.obj m1 v1)) ((w.alloc (c.obj m1 v1)).alloc (.cells #[.int .i64 0,.slice none 0 0,.slice none 0 0] 53)):=(Ex.refl _).alloc _;have aO:=Aa (G9 ((w.alloc (c.obj m1 v1)).alloc (.cells #[.int .i64 0,.slice none 0 0,.slice none 0 0] 53)) c m1 v1 (hc.ex (aX.trans aF)));have aP:=Aa (fun (w5:World) (h5:Ex (w.alloc (c.obj m1 v1)) w5) (g:BZ) (u r:Value) (hu:Aj w5 u g.tl) (hr:Aj w5 r g.sl) (FB:Nat->Prop) (h1:∀X,FB X->X<w5.heap.size) (h2:∀X,u.ownBlock=some X->¬FB X) (h3:∀X,r.ownBlock=some X->¬FB X)=>Ot w5 c c m1 m1 v1 v1 (bO.o.ex h5) (bO.o.ex h5) g.tl g.sl u r hu hr FB h1 (fun _=>h2) (fun _=>h3));rw[cM]at bC;rw[hB]at c0 c1 c2 c3 c4;replace c0:=aF.cell c0;replace c1:=aF.cell c1;replace c2:=aF.cell c2;replace c3:=aF.cell c3;replace c4:=aF.cell c4;obtain⟨bX,aC,bW,bP,aB⟩:=Of aF cM (aX.trans aF) bC (show((w.alloc (c.obj m1 v1)).alloc (.cells #[.int .i64 0,.slice none 0 0,.slice none 0 0] 53)).heap.size=B+1+1 from by simp[hB]);obtain⟨C,hC⟩:∃C:AU,C=c:=⟨_,rfl⟩;have dF:=Aa hC;have cY:=Aa (show ∀r w',Z2 C r w'->Z2 c r w' from fun r w' h=>by rw[<-hC];exact h);rw[<-hC]at aJ cQ cP cO;obtain⟨cp,cm,aR,cn,bV⟩:=c;unfold AU.arg at aO aP ⊢;unfold AU.obj at bE aC bW bX aO aP bP aB bO c0 c1 c2 c3 c4;dsimp only at bE aC bW bX aO aP bP aB bO c0 c1 c2 c3 c4 cL cK ⊢;rw[cL,cK]at bE aC bW bX aO aP bP aB c0 c1 c2 c3 c4 ⊢;rw[<-hC]at aO aP;obtain⟨eS,bZ,eR,dX⟩:=Eq aJ cP cQ cO;clear hc aX hC cL cK aF bC cM aJ cP cQ cO bO;have dB:=Aa (show w.heap.size<=B+1 from ac);go_enter Tryz.func32,Tryz.ntmps32
 go_upto_region 1 with fail
 try simp only[hB]
 clear hB;generalize w.alloc (.cells #[.int .i64 cp,.int .i64 cm,.slice x3 aR.length y3,.int .i64 cn,.slice x1 bV.length y1] 39)=wa at *;generalize wa.alloc (.cells #[.int .i64 0,.slice none 0 0,.slice none 0 0] 53)=w1 at *;go_wp2_with fail
 refine aO.o.mono ?_;rintro e w2⟨aZ,aD⟩;have bY:=Aa aD;obtain⟨e0,dN,ho⟩:=OU aZ;have cA:=Aa dN;replace c0:=aD.cell c0;replace c1:=aD.cell c1;replace c2:=aD.cell c2;replace c3:=aD.cell c3;replace c4:=aD.cell c4;obtain⟨q0,q1,q2,q3,cH,cG,cF⟩:=bP.o.ex aD;obtain⟨GE,cV⟩:∃x,JF C e0=x:=⟨_,rfl⟩;rw[cV]at ho;have dC:=Aa cV;clear aZ aD dN aO cV;rcases ho with⟨h0,rfl⟩|⟨h0,bC,pn,mn,N,b,x0,mv,nv,hp,hm,hn,hN1,hN64,hD,rfl,hg,hx1,aD,hms,hns⟩
 .have hb:(GE !=0)=true:=by simpa using h0
  have HZ:=Aa (show UM C e0=GE/\GE≠0 from by unfold UM;rw[dC.o,if_pos h0];exact⟨rfl,h0⟩);clear h0;go_wp2_with fail
  exact bodyPost_ret (v:= .tuple #[.agg #[.int .i64 0,.slice none 0 0,.slice none 0 0],.int .i64 GE]) dh rfl ⟨cY.o _ _ ⟨e0,cA.o,.inl ⟨by rw[HZ.o.1];exact HZ.o.2,by rw[HZ.o.1]⟩⟩,Bf (bW.o.trans bY.o) dB.o _ _ _⟩
 .subst h0;have eM:cn=(N:Int):=by have:=dF.o;rw[this]at hn;exact hn
  subst eM;have eX:=Aa (show e0=0 from by
   have h1:=dC.o;unfold JF at h1;split at h1
   .rename_i h2;exact absurd h1 h2
   .rename_i h2;have h3:Ii C e0=0:=by simpa using h2
    unfold Ii at h3;split at h3
    .exact h3
    .rename_i h4;simpa using h4)
  have bI:=Aa (show C.p=pn/\C.m=mn/\C.n=N from⟨hp,hm,hn⟩);have eQ:=Aa (show C.n.toNat=N from by rw[hn];rfl);have dI:=Aa (show MG C=CU ((N*(pn^mn-1):Nat):Int) (Ed pn mn C.ml (Dj C (AA C))) from by unfold MG JS;rw[hp,hm,hn];rfl);have eA:=Aa (fun (w5:World) (h5:Ex w2 w5)=>Il w5 (hg.ex h5) N hN64 hD (Dj C (AA C)) mv (hms.ex h5) (fun M hM=>by have:=eR.o M hM;rwa[eQ.o]at this) eS.o);have cX:=Aa (show UM C e0=(MG C).2 from by unfold UM;rw[dC.o,if_neg ag]);obtain⟨ma,mc,rfl,-,-,-⟩:=hms.open;obtain⟨na,nc,rfl,-,zn,n3⟩:=hns.open;unfold maxLen at zn;obtain⟨BS,cW⟩:∃x,MG C=x:=⟨_,rfl⟩;have eF:=Aa cW;rw[cW]at cX dI;obtain⟨⟨bd,bl⟩,be⟩:=BS;obtain⟨LM,cU⟩:∃x,(Dj C (AA C)).length=x:=⟨_,rfl⟩;have dH:=Aa (show ∀w5,Ex w2 w5->Calls Tryz.prog 64 #[.pointer (some ⟨b,0,none⟩),.int .i64 (N:Int),.slice ma LM mc] w5 fun r w'=>(∃v,r= .returned (.tuple #[.agg #[.int .i64 bd,v],.int .i64 be])/\D6 w' v bl)/\Ex w5 w' from fun w5 h5=>by
   rw[<-cU];exact(eA.o w5 h5).mono (by
    rintro r w'⟨⟨v,h1,h2⟩,h3⟩;rw[<-dI.o]at h1 h2;exact⟨⟨v,h1,h2⟩,h3⟩))
  have eH:=Aa (show ∀l∈bl,2<=l.orb.length/\2<=l.reps.length/\∀r∈l.reps,2<=r.length from fun l hl=>JX (n:=((N*(pn^mn-1):Nat):Int)) (rows:=Ed pn mn C.ml (Dj C (AA C))) (by rw[<-dI.o];exact hl));obtain⟨NS,cS⟩:∃x,Ic C (AA C)=x:=⟨_,rfl⟩;have dY:=Aa cS;rw[cS]at n3 bZ dX ⊢;obtain⟨LN,cT⟩:∃x,NS.length=x:=⟨_,rfl⟩;have dZ:=Aa cT;rw[cT]at n3 bZ ⊢;have N3:=Aa n3;rw[cU];have cZ:=Aa (show ∀(w5:World) (h5:Ex wa w5) (g:BZ) (u r:Value),g∈NS->Aj w5 u g.tl->Aj w5 r g.sl->∀(FB:Nat->Prop),(∀X,FB X->X<w5.heap.size)->(∀X,u.ownBlock=some X->¬FB X)->(∀X,r.ownBlock=some X->¬FB X)->Calls Tryz.prog 83 #[.agg #[.int .i64 cp,.int .i64 cm,.slice x3 aR.length y3,.int .i64 N,.slice x1 bV.length y1],.agg #[.int .i64 cp,.int .i64 cm,.slice x3 aR.length y3,.int .i64 N,.slice x1 bV.length y1],.agg #[u,r]] w5 fun r' w'=>Zk FB (Hd 0 (gF C g)) 0 r' w'/\Ex w5 w' from fun w5 h5 g u r bA hu hr FB h1 h2 h3=>by
   refine(aP.o w5 h5 g u r hu hr FB h1 h2 h3).mono ?_;rintro r' w'⟨⟨e1,e2,k1,k2,k3⟩,k4⟩;refine⟨?_,k4⟩;have hz:=eX.o;have bB:Ce cp cm aR N bV 0:=by have h1:=cA.o;rw[dF.o,hz]at h1;exact h1
   obtain rfl:e1=0:=Cl k1 bB;obtain rfl:e2=0:=Cl (k2 rfl) bB;have dK:=bI.o.1;have dL:=bI.o.2.1;rw[dF.o]at dK dL;have eK:g∈Ds N (pn^mn):=by
    rw[<-dY.o]at bA;unfold Ic AA at bA;rw[bI.o.1,bI.o.2.1,bI.o.2.2]at bA;exact(List.mem_filter.1 bA).1
   have Bd:EY 0 0 (Cq cp cm aR cp cm aR) N N g.tl g.sl (cp.toNat^cm.toNat)=0:=Pr (N:=N) rfl (q:=cp.toNat^cm.toNat) (by
    have h1:cp=pn:=dK;have h2:cm=mn:=dL;rw[h1,h2];exact IS eK)
   rw[Bd]at k3;have eI:=dX.o g bA;have:FY C C g.tl g.sl=gF C g:=rfl;rw[this,eI]at k3;exact k3)
  clear bC hp hm hn hN1 hN64 hD hg hx1 aD hms hns cW cU eA n3 cS cT aP;obtain⟨OB,bU⟩:∃x,w2.heap.size=x:=⟨_,rfl⟩;have bg:=UO.new w2;rw[bU]at bg;have bN:=Aa (show Ex w2 (w2.alloc (.cells #[.int .i64 0,.slice none 0 0,.slice none 0 0] 53)) from(Ex.refl w2).alloc _);have dG:=Aa bg;go_upto_region 5 with fail
  try simp only[bU]
  have bJ:=Aa bU;clear bU bg;generalize w2.alloc (.cells #[.int .i64 0,.slice none 0 0,.slice none 0 0] 53)=w3 at *;replace c3:=bN.o.cell c3;obtain⟨t0,t1,t2,t3,cE,cD,cC⟩:=dG.o;go_upto_region 6 with (go_at_call 64;refine(dH.o w3 bN.o).mono ?_;rintro e w6⟨⟨v6,rfl,cJ⟩,cI⟩;obtain⟨la,lc,eJ,_,_,_⟩:=cJ.open;subst eJ;clear t0 t1 t2 t3 cE cD cC;obtain⟨t0,t1,t2,t3,cE,cD,cC⟩:=dG.o.ex cI;have dT:=Aa cJ;have bG:=Aa cI;clear cJ cI)
  have dD:=Aa (dG.o.ex bG.o);have aI:=Aa (bP.o.ex (bY.o.trans (bN.o.trans bG.o)));have dJ:B+1<w6.heap.size:=(World.block_lt_of_cell? _ (⟨B+1,0,none⟩:Addr) aI.o.c0);have cB:=Aa (Ra.start (RB:=B+1) (d:=bd) (lv:= .slice la bl.length lc) dD.o dJ);have aT:=Aa (show B+1<OB from by have:=bY.o.size;have:=aB.o;have:=bJ.o;omega);have aS:=Aa (show Ex wa ((w6.setCell ⟨OB,0,none⟩ (.int .i64 bd)).setCell ⟨OB,1,none⟩ (.slice la bl.length lc)) from IB (bX.o.trans (bY.o.trans (bN.o.trans bG.o))) (by have:=aT.o;have:=aC.o;omega) _ _);have bH:=Aa (bN.o.trans bG.o);clear t0 t1 t2 t3 cE cD cC q0 q1 q2 q3 cH cG cF dJ;obtain⟨w7,bR⟩:∃x,(w6.setCell ⟨OB,0,none⟩ (.int .i64 bd)).setCell ⟨OB,1,none⟩ (.slice la bl.length lc)=x:=⟨_,rfl⟩;rw[bR]at cB aS;have dE:=Aa (show w7.frozen? ⟨B+1,0,none⟩=false/\w7.frozen? ⟨B+1,1,none⟩=false/\w7.frozen? ⟨B+1,2,none⟩=false from by rw[<-bR];exact⟨by rw[Ar,Ar];exact aI.o.f0,by rw[Ar,Ar];exact aI.o.f1,by rw[Ar,Ar];exact aI.o.f2⟩)
  try simp only[bR]
  clear bR;have dA:=Aa (show ∀w',Ct (fun X=>X=OB) w6 w'->w'.cell? ⟨B+1,0,none⟩=some (.int .i64 0)/\w'.cell? ⟨B+1,1,none⟩=some (.slice none 0 0)/\w'.cell? ⟨B+1,2,none⟩=some (.slice none 0 0) from fun w' h=>
   ⟨h.cell aI.o.c0 (by show ¬B+1=OB;have:=aT.o;omega),h.cell aI.o.c1 (by show ¬B+1=OB;have:=aT.o;omega),h.cell aI.o.c2 (by show ¬B+1=OB;have:=aT.o;omega)⟩)
  by_cases hbe:be=0
  rotate_left
  .have hb:(be !=0)=true:=by simpa using hbe
   have HZ:=Aa (show UM C e0=be/\be≠0 from⟨cX.o,hbe⟩);obtain⟨q0,q1,q2⟩:=dA.o w7 cB.o.off;obtain⟨cH,cG,cF⟩:=dE.o;clear hbe;go_wp2_with fail
   exact bodyPost_ret (v:= .tuple #[.agg #[.int .i64 0,.slice none 0 0,.slice none 0 0],.int .i64 be]) dh rfl ⟨cY.o _ _ ⟨e0,cA.o,.inl ⟨by rw[HZ.o.1];exact HZ.o.2,by rw[HZ.o.1]⟩⟩,Bf (bE.o.trans aS.o) dB.o _ _ _⟩
  .subst hbe;go_wp2_with fail
   go_loopw [39] (fun k' wr=>∃(k:Nat) (rv:Value) (evs:List Value),k<=LN/\k'= .int .i64 k/\Hia (Ra w6 wr OB (B+1) bd (.slice la bl.length lc) rv (Hq C (NS.take k)) evs)/\Hia (Ex wa wr)/\Hia (wr.frozen? ⟨B+1,0,none⟩=false/\wr.frozen? ⟨B+1,1,none⟩=false/\wr.frozen? ⟨B+1,2,none⟩=false)) (fun k' _=>LN-(intOf k').toNat)
   case atStart=>exact⟨0,_, [],ac,rfl,cB,aS,dE⟩
   case round=>
    clear cB aS dE;obtain⟨k,rv,evs,hk,rfl,aK,bQ,bT⟩:=hrel;obtain⟨ra,rc,rfl⟩:=Ab aK.o.own;by_cases hkl:k<LN
    .have aA:=Aa aK.o;have dR:=Aa bQ.o;have eW:=Aa bT.o;have aG:=Aa (show ∀(q:Addr) (u:Value),w2.cell? q=some u->wr.cell? q=some u from fun q u h=>aA.o.off.cell (bH.o.cell h) (fun e=>by
      have h1:q.block<w2.heap.size:=World.block_lt_of_cell? _ _ h;have h2:q.block=OB:=e;have:=bJ.o;omega))
     have eB:=Aa (show ∀(v:Value) (l:List Int),Aj w2 v l->0<l.length->Aj wr v l from fun v l h hl=>Sl.offQ (h.ex bH.o) (fun _ q hq e=>by
      have h1:=Sl.blk h (by rw[AS];exact hl) e;have h2:q=OB:=hq;have:=bJ.o;omega) aA.o.off)
     obtain⟨gb,go,rfl,dM⟩:=N3.o ac;obtain⟨g,hg⟩:∃g,NS[k]?=some g:=⟨_,List.getElem?_eq_getElem (by rw[dZ.o];exact hkl)⟩;obtain⟨u,r,d0,d1,d2,d3,d4,hu,bS,dO,dP⟩:=dM k g hg;obtain⟨eV,eU,eE,eG,HU,dW⟩:=To hg (List.mem_of_getElem? hg) (show ∀X,u.ownBlock=some X->B+1<X/\X<OB from fun X e=>⟨by have:=dO X e;have:=aB.o;omega,by have:=Sl.blk hu (by rw[AS,BV];omega) e;have:=bJ.o;omega⟩) (show ∀X,r.ownBlock=some X->B+1<X/\X<OB from fun X e=>⟨by have:=dP X e;have:=aB.o;omega,by have:=Sl.blk bS (by rw[AS,Cf];omega) e;have:=bJ.o;omega⟩) (eB.o _ _ hu (by rw[BV];omega)) (eB.o _ _ bS (by rw[Cf];omega));obtain⟨ua,uc,rfl,-,-,-⟩:=hu.open;obtain⟨qa,qc,rfl,-,-,-⟩:=bS.open;rw[BV]at d3 HU eE;rw[Cf]at d4 dW eG;replace d0:=aG.o _ _ d0;replace d1:=aG.o _ _ d1;replace d2:=aG.o _ _ d2;replace d3:=aG.o _ _ d3;replace d4:=aG.o _ _ d4;rw[show go+5*k=go+k*5 from ac]at d0;rw[show go+(5*k+1)=go+k*5+1 from ac]at d1;rw[show go+(5*k+2)=go+k*5+2 from ac]at d2;rw[show go+(5*k+3)=go+k*5+3 from ac]at d3;rw[show go+(5*k+4)=go+k*5+4 from ac]at d4;have k0:=aG.o _ _ c0;have k1:=aG.o _ _ c1;have k2:=aG.o _ _ c2;have k4:=aG.o _ _ c4;have k3:=aA.o.off.cell ((bG.o).cell c3) (show ¬B=OB from by have:=aT.o;omega);have i1:(0:Int)<=(k:Int):=by omega
     have i2:(k:Int)<(LN:Int):=ac;have bM:=Aa hkl;clear aK bQ bT hg dM hu bS dO dP hkl;go_upto_region 11 with fail
     obtain⟨XB,aM⟩:∃x,wr.heap.size=x:=⟨_,rfl⟩;have x3:(wr.alloc (.cells #[.int .i64 g.i,.int .i64 g.j,.int .i64 g.a,.slice ua (g.i+1) uc,.slice qa (g.i+1) qc] 129)).cell? ⟨XB,3,none⟩=some (.slice ua (g.i+1) uc):=by rw[<-aM];simp
     have x4:(wr.alloc (.cells #[.int .i64 g.i,.int .i64 g.j,.int .i64 g.a,.slice ua (g.i+1) uc,.slice qa (g.i+1) qc] 129)).cell? ⟨XB,4,none⟩=some (.slice qa (g.i+1) qc):=by rw[<-aM];simp
     have aW:(wr.alloc (.cells #[.int .i64 g.i,.int .i64 g.j,.int .i64 g.a,.slice ua (g.i+1) uc,.slice qa (g.i+1) qc] 129)).cell? ⟨XB,0,none⟩=some (.int .i64 g.i):=by rw[<-aM];simp
     have aV:(wr.alloc (.cells #[.int .i64 g.i,.int .i64 g.j,.int .i64 g.a,.slice ua (g.i+1) uc,.slice qa (g.i+1) qc] 129)).cell? ⟨XB,1,none⟩=some (.int .i64 g.j):=by rw[<-aM];simp
     have aU:(wr.alloc (.cells #[.int .i64 g.i,.int .i64 g.j,.int .i64 g.a,.slice ua (g.i+1) uc,.slice qa (g.i+1) qc] 129)).cell? ⟨XB,2,none⟩=some (.int .i64 g.a):=by rw[<-aM];simp
     have aE:=Aa (show Ex wr (wr.alloc (.cells #[.int .i64 g.i,.int .i64 g.j,.int .i64 g.a,.slice ua (g.i+1) uc,.slice qa (g.i+1) qc] 129)) from(Ex.refl wr).alloc _)
     try simp only[aM]
     clear aM d0 d1 d2 d3 d4 i1 i2;generalize wr.alloc (.cells #[.int .i64 g.i,.int .i64 g.j,.int .i64 g.a,.slice ua (g.i+1) uc,.slice qa (g.i+1) qc] 129)=w5 at *;replace k0:=aE.o.cell k0;replace k1:=aE.o.cell k1;replace k2:=aE.o.cell k2;replace k3:=aE.o.cell k3;replace k4:=aE.o.cell k4;obtain⟨LE,aN⟩:∃x,(Hq C (NS.take k)).length=x:=⟨_,rfl⟩;have bL:=Aa (show LE<=1000 from by
      rw[<-aN];have:=bZ.o;have:=bM.o;unfold Hq;rw[List.length_map,List.length_take];omega)
     have bK:=Aa aN;rw[aN]at aA;have eC:=Aa (cZ.o w5 (dR.o.trans aE.o) g _ _ eU.o (HU.o.ex aE.o) (dW.o.ex aE.o) (fun X=>X=OB∨X=B+1∨(Value.slice ra LE rc).ownBlock=some X)
      (fun X hX=>by
       have h1:=aE.o.size;have h2:=aA.o.size;have h3:=aA.o.ob;have h4:=aA.o.rb;rcases hX with hX|hX|hX
       .omega
       .omega
       .have:=(aA.o.own.lt X hX).2;omega)
      (fun X e hX=>by
       have h3:=aA.o.ob;obtain⟨h1,h2⟩:=eE.o X e;rcases hX with hX|hX|hX
       .omega
       .omega
       .have:=(aA.o.own.lt X hX).1;omega)
      (fun X e hX=>by
       have h3:=aA.o.ob;obtain⟨h1,h2⟩:=eG.o X e;rcases hX with hX|hX|hX
       .omega
       .omega
       .have:=(aA.o.own.lt X hX).1;omega))
     clear aN;go_wp2_with fail
     refine eC.o.mono ?_;rintro e w9⟨⟨ev,rfl,cN⟩,aY⟩;have dV:=Aa cN;obtain⟨-,-,⟨-,ea,ec,eL,-⟩,-⟩:=cN.g.rsl;subst eL;obtain⟨LP,dQ⟩:∃x,(Hd 0 (gF C g)).length=x:=⟨_,rfl⟩;rw[dQ]at dV ⊢;replace aW:=aY.cell aW;replace aV:=aY.cell aV;replace aU:=aY.cell aU;have bF:=Aa (show Ex w9 (w9.alloc (.cells #[.slice ea LP ec] 94)) from(Ex.refl w9).alloc _);have t0:(w9.alloc (.cells #[.slice ea LP ec] 94)).cell? ⟨w9.heap.size,0,none⟩=some (.slice ea LP ec):=ag;obtain⟨TB,cR⟩:∃x,w9.heap.size=x:=⟨_,rfl⟩;rw[cR]at t0;have aH:=Aa (aE.o.trans (aY.trans bF.o));replace aW:=bF.o.cell aW;replace aV:=bF.o.cell aV;replace aU:=bF.o.cell aU;have eO:=Aa (dV.o.g.off (.ex bF.o) fun X _ hX=>hX);clear cN dQ aY eC k0 k1 k2 k3 k4 x3 x4;go_upto_region 12 with fail
     try simp only[cR]
     clear cR;generalize w9.alloc (.cells #[.slice ea LP ec] 94)=w10 at *;have aQ:=Aa (aA.o.later aH.o);have b2:=aQ.o.b2;have eP:=Aa (show w10.ownsRow w6.heap.size 96 4 (.slice ra LE rc) LE (Mo (Hq C (NS.take k)) evs) from by have:=aQ.o.own;rwa[bK.o]at this);have eN:=Aa aQ.o.size;have hk64:k<=1048576:=by have:=bM.o;have:=bZ.o;omega
     go_wp2_with (at_builtin;refine Ak _ rfl _ _ 51 rfl w6.heap.size 96 (.agg #[.int .i64 0,.int .i64 0,.int .i64 0,.slice none 0 0]) 4 48 Tryz.underlying51 VR rfl ae _ LE _ rfl eP.o [.int .i64 (g.i:Int),.int .i64 (g.j:Int),.int .i64 (g.a:Int),.slice ea LP ec] 96 _ rfl ag rfl aj (by have:=bL.o;unfold maxLen;omega) (by have:=bL.o;omega) eN.o ?_)
     intro v8 w8 aL;have bD:AZ w10 w8 w6.heap.size 96 4 (.slice ra LE rc) v8 (Hq C (NS.take k)).length (Mo (Hq C (NS.take k)) evs) [.int .i64 (RP C g).i,.int .i64 (RP C g).j,.int .i64 (RP C g).a,.slice ea LP ec]:=by rw[bK.o];exact aL
     obtain⟨cc2,ff2,hn⟩:=aQ.o.app (x:=RP C g) eO.o bD;rw[show Hq C (NS.take k) ++ [RP C g]=Hq C (NS.take (k+1)) from by unfold Hq;rw[List.take_add_one,eV.o,List.map_append];rfl]at hn;have HN:=Aa hn;have dS:=Aa (show Ex wa (w8.setCell ⟨OB,2,none⟩ v8) from(aL.ex (dR.o.trans aH.o) (by have:=aA.o.rb;have:=aC.o;omega)).setCell (p:=⟨OB,2,none⟩) (by have:=aT.o;have:=aC.o;show wa.heap.size<=OB;omega) _);have eD:=Aa (show(w8.setCell ⟨OB,2,none⟩ v8).frozen? ⟨B+1,0,none⟩=false/\(w8.setCell ⟨OB,2,none⟩ v8).frozen? ⟨B+1,1,none⟩=false/\(w8.setCell ⟨OB,2,none⟩ v8).frozen? ⟨B+1,2,none⟩=false from by
      obtain⟨h0,h1,h2⟩:=dA.o wr aA.o.off;obtain⟨f0,f1,f2⟩:=eW.o;rw[Ar,Ar,Ar];exact⟨aL.frz (aH.o.cell h0) (aH.o.frz h0 f0) aQ.o.no.2,aL.frz (aH.o.cell h1) (aH.o.frz h1 f1) aQ.o.no.2,aL.frz (aH.o.cell h2) (aH.o.frz h2 f2) aQ.o.no.2⟩)
     obtain⟨na8,nc8,rfl⟩:=Ab aL.own;clear aL bD hn aW aV aU t0 b2;go_wp2_with fail
     go_roundw
     case rel=>first|exact⟨k+1,_,_,by have:=bM.o;omega,by go_num,HN,dS,eD⟩|((repeat apply Exists.intro);exact⟨⟨k+1,_,_,by have:=bM.o;omega,by go_num,HN,dS,eD⟩,rfl⟩)
     case measure=>have:=bM.o;simp[intOf];omega
    .obtain rfl:LN=k:=by omega
     have dU:=Aa (show NS.take LN=NS from List.take_of_length_le (by rw[dZ.o];exact Nat.le_refl _));obtain⟨LE,aN⟩:∃x,(Hq C (NS.take LN)).length=x:=⟨_,rfl⟩;rw[aN]at aK;rw[dU.o]at aK;have aA:=Aa aK.o;have aS:=Aa bQ.o;have HLV:=Aa (show D6 wr (.slice la bl.length lc) bl from D6.offQ (Q:=fun X=>X=OB) (fun q hq=>by rw[hq];exact dD.o) dT.o eH.o aA.o.off);have eT:=Aa (show ∀u v z,D6 (((wr.setCell ⟨B+1,0,none⟩ u).setCell ⟨B+1,1,none⟩ v).setCell ⟨B+1,2,none⟩ z) (.slice la bl.length lc) bl from fun u v z=>D6.offQ (Q:=fun X=>X=OB∨X=B+1) (fun q hq=>by rcases hq with hq|hq <;> rw[hq];exact dD.o;exact aI.o) dT.o eH.o ((aA.o.off.mono fun X _ h=> .inl h).trans ((Jd u v z).mono fun X _ h=> .inr h) aA.o.size));obtain⟨q0,q1,q2⟩:=dA.o wr aA.o.off;obtain⟨cH,cG,cF⟩:=bT.o;have d0:=aA.o.b0;have d1:=aA.o.b1;have d2:=aA.o.b2;clear aK bQ bT aN dU;go_wp2_with fail
     exact bodyPost_ret (v:= .tuple #[.agg #[.int .i64 bd,.slice la bl.length lc,.slice ra LE rc],.int .i64 0]) dh rfl ⟨cY.o _ _ ⟨e0,cA.o,.inr ⟨cX.o,_,_,by rw[eF.o],by rw[eF.o];exact eT.o _ _ _,by rw[dY.o];exact aA.o.fin _ _ _⟩⟩,Bf (bE.o.trans aS.o) dB.o _ _ _⟩
def A6(L:List Lv):List (List Int):=L.flatMap fun l=>l.reps
theorem Ps{L:List Lv}{i:Nat}{l:Lv}(h:L[i]?=some l):A6 (L.take (i+1))=A6 (L.take i)++l.reps:=by
 unfold A6;rw[List.take_add_one,h];simp
theorem NO(L:List Lv)(i:Nat):(A6 (L.take i)).length<=(A6 L).length:=by
 have:A6 L=A6 (L.take i)++A6 (L.drop i):=by
  unfold A6;rw[<-List.flatMap_append,List.take_append_drop]
 rw[this,List.length_append];omega
open Classical in
noncomputable def A9 (d:Int) (L:List Lv):Int:=if d<1∨64<d then 4 else if DA d (A6 L)=0/\L=Cd d.toNat ((A6 L).map CE) d.toNat then 0 else 5
theorem Oa{n:Nat}{S:List (Nat->Nat)}{m:Nat}{l:Lv}(h:l∈Cd n S m):l.orb.length<=n/\l.reps.length=l.orb.length:=by
 unfold Cd at h;obtain⟨h1,h2⟩:=List.mem_filter.1 h;obtain⟨b,_,rfl⟩:=List.mem_map.1 h1;refine⟨by show(CZ (Be S b n)).length<=n;rw[Cc];exact Fk S b n,?_⟩;show(Dk n S b n).length=(CZ (Be S b n)).length
 unfold Dk;rw[List.length_map,Cc]
structure F4(w0 wr:World)(gv:Value)(M:List (List Int))(vals:List Value):Prop where
 own:wr.ownsRow w0.heap.size 22 1 gv M.length vals
 row:∀(i:Nat) (r:List Int) (u:Value),M[i]?=some r->vals[i]?=some u->Aj w0 u r
 ex:Ex w0 wr
theorem F4.nil(w:World):F4 w w (.slice none 0 0) [] []:=⟨World.ownsRow_nil _ _ _ _,fun i r u h=>by simp at h,Ex.refl _⟩
theorem F4.len{w0 wr:World}{gv:Value}{M:List (List Int)}{vals:List Value}(h:F4 w0 wr gv M vals):vals.length=M.length:=by have:=h.own.1;omega
theorem F4.later{w0 wr w':World}{gv:Value}{M:List (List Int)}{vals:List Value}(h:F4 w0 wr gv M vals)(hx:Ex wr w'):F4 w0 w' gv M vals:=⟨Ai h.own hx,h.row,h.ex.trans hx⟩
theorem F4.msl{w0 wr:World}{gv:Value}{M:List (List Int)}{vals:List Value}(h:F4 w0 wr gv M vals):BT wr gv M:=⟨vals,Sl.own h.own,fun i r u a b=>(h.row i r u a b).ex h.ex⟩
theorem F4.app{w0 wr w':World}{gv gv':Value}{M R:List (List Int)}{vals us:List Value}(h:F4 w0 wr gv M vals)(hr:∀(i:Nat) (r:List Int) (u:Value),R[i]?=some r->us[i]?=some u->Aj w0 u r)
  (ho:w'.ownsRow w0.heap.size 22 1 gv' (M.length+R.length) (vals++us)) (hx:Ex w0 w'):F4 w0 w' gv' (M++R) (vals++us):=by
 have hn:=h.len;refine⟨by rw[List.length_append];exact ho,fun i r u h1 h2=>?_,hx⟩;by_cases e:i<M.length
 .rw[List.getElem?_append_left e]at h1;rw[List.getElem?_append_left ac]at h2;exact h.row i r u h1 h2
 .rw[List.getElem?_append_right ac]at h1 h2;rw[hn]at h2;exact hr _ r u h1 h2
theorem D6.open3{w:World}{v:Value}{L:List Lv}(h:D6 w v L):∃a cap,v= .slice a L.length cap/\L.length<=cap/\cap<=maxLen/\
  (0<L.length->∃b o,a=some ⟨b,o,none⟩/\∀(i:Nat) (l:Lv),L[i]?=some l->∃u r,w.cell? ⟨b,o+i*3,none⟩=some (.int .i64 l.pt)/\w.cell? ⟨b,o+i*3+1,none⟩=some u/\w.cell? ⟨b,o+i*3+2,none⟩=some r/\Aj w u l.orb/\BT w r l.reps):=by
 obtain⟨a,cap,h1,h2,h3,h4⟩:=h.open;refine⟨a,cap,h1,h2,h3,fun hn=>?_⟩;obtain⟨b,o,h5,h6⟩:=h4 hn;refine⟨b,o,h5,fun i l hl=>?_⟩;obtain⟨u,r,k1,k2,k3,k4,k5⟩:=h6 i l hl;exact⟨u,r,by rw[Nat.mul_comm i 3];exact k1,by rw[Nat.mul_comm i 3,Nat.add_assoc];exact k2,by rw[Nat.mul_comm i 3,Nat.add_assoc];exact k3,k4,k5⟩
theorem Qn{l k:List Lv}(hl:l.length=k.length)(h:∀j,j<l.length->l[j]?=k[j]?):l=k:=by
 exact zb7
theorem Ch(w:World)(c:Int)(v:Value):(w.alloc (.cells #[.int .i64 c,v] 43)).cell? ⟨w.heap.size,0,none⟩=some (.int .i64 c)/\
  (w.alloc (.cells #[.int .i64 c,v] 43)).cell? ⟨w.heap.size,1,none⟩=some v/\Ex w (w.alloc (.cells #[.int .i64 c,v] 43)):=
 ⟨ag,ag,(Ex.refl _).alloc _⟩
theorem D4(w:World)(c:Int)(u v:Value):(w.alloc (.cells #[.int .i64 c,u,v] 90)).cell? ⟨w.heap.size,0,none⟩=some (.int .i64 c)/\
  (w.alloc (.cells #[.int .i64 c,u,v] 90)).cell? ⟨w.heap.size,1,none⟩=some u/\(w.alloc (.cells #[.int .i64 c,u,v] 90)).cell? ⟨w.heap.size,2,none⟩=some v/\Ex w (w.alloc (.cells #[.int .i64 c,u,v] 90)):=
 ⟨ag,ag,ag,(Ex.refl _).alloc _⟩
theorem zb8{P:Prop}(h:P:=by
 go_wp2_with fail
 go_ret;exact⟨Ag HR.o,aJ.o.trans (aA.o.ex.trans EB.o)⟩):P:=h
theorem Fx(w:World)(d:Int)(L:List Lv)(lv:Value)(hL:D6 w lv L)(hg:(A6 L).length<=1000):
  Calls Tryz.prog 70 #[.agg #[.int .i64 d,lv]] w fun r w'=>r= .returned (.int .i64 (A9 d L))/\Ex w w':=by
 obtain⟨d0,d1,e0⟩:=Ch w d lv;obtain⟨za,zc,rfl,z1,z2,z3⟩:=(hL.ex e0).open3;unfold maxLen at z2;have HL:=Aa (hL.ex e0);have Z3:=Aa z3;clear z3 hL;have HG:=Aa (Gs (w.alloc (.cells #[.int .i64 d,.slice za L.length zc] 43)) d);go_enter Tryz.func70,Tryz.ntmps70
 go_wp2_with fail
 obtain⟨q,hq⟩:=nA w.heap.size;rw[hq]at d0 d1
 try simp only[hq]
 clear hq;generalize w.alloc (.cells #[.int .i64 d,.slice za L.length zc] 43)=w1 at *;have aJ:=Aa e0;clear e0;refine HG.o.mono ?_;rintro e wd⟨rfl,rfl⟩;by_cases hd:d<1∨64<d
 .have HR:=Aa (show(4:Int)=A9 d L from by unfold A9;rw[if_pos hd]);have aR:Ke d=4:=by unfold Ke;rw[if_pos hd]
  rw[aR];clear hd aR;go_wp2_with fail
  go_ret;exact⟨Ag HR.o,aJ.o⟩
 .have aR:Ke d=0:=by unfold Ke;rw[if_neg hd]
  rw[aR];obtain⟨D,rfl⟩:∃D:Nat,d=D:=⟨d.toNat,ac⟩;have hD1:1<=D:=db;have hD2:D<=64:=ac;have aE:=Aa (show(¬(DA D (A6 L)=0/\L=Cd D ((A6 L).map CE) D))->5=A9 D L from fun h=>by unfold A9;rw[if_neg hd];exact(if_neg h).symm);have bG:=Aa (show DA D (A6 L)=0->L=Cd D ((A6 L).map CE) D->0=A9 D L from fun h k=>by unfold A9;rw[if_neg hd];exact(if_pos ⟨h,k⟩).symm);clear hd aR;have D0:=Aa d0;have D1:=Aa d1;by_cases hln:D<L.length
  .have HR:=Aa (aE.o <| by
    rintro⟨_,h⟩;have:=congrArg List.length h;have:=Ob D ((A6 L).map CE) D;omega)
   have h1:(D:Int)<(L.length:Int):=ac;go_wp2_with fail
   go_ret;exact⟨Ag HR.o,aJ.o⟩
  .have h1:¬(D:Int)<(L.length:Int):=by omega
   go_wp2_with fail
   clear d0 d1
   go_loopw [4,27] (fun gv' k' wr=>∃(k:Nat) (vals:List Value),k<=L.length/\k'= .int .i64 k/\Hia (F4 w1 wr gv' (A6 (L.take k)) vals)) (fun _ k' _=>L.length-(intOf k').toNat)
   case atStart=>exact⟨0, [],ac,rfl,Aa (F4.nil w1)⟩
   case round=>
    obtain⟨k,vals,hk,rfl,aA⟩:=hrel;have cA:=NO L k;obtain⟨ga,gc,rfl⟩:=Ab aA.o.own;by_cases hkl:k<L.length
    .obtain⟨l,hl⟩:∃l,L[k]?=some l:=⟨_,List.getElem?_eq_getElem hkl⟩;obtain⟨zb,zo,rfl,aO⟩:=Z3.o ac;obtain⟨u,r,c0,c1,c2,hu,hr⟩:=aO k l hl;have c0:=aA.o.ex.cell c0;have c1:=aA.o.ex.cell c1;have c2:=aA.o.ex.cell c2;have d0:=aA.o.ex.cell D0.o;have d1:=aA.o.ex.cell D1.o;obtain⟨oa,oc,rfl,_,_,_⟩:=hu.open;obtain⟨ra,rc,rfl,_,_,_⟩:=hr.open;have i1:(0:Int)<=(k:Int):=by omega
     have i2:(k:Int)<(L.length:Int):=ac;obtain⟨p,hp⟩:=nA l.pt;rw[hp]at c0;obtain⟨bE,HPE,HU,aU⟩:=Eq hl hp hu hr;obtain⟨b0,b1,b2,eb⟩:=D4 wr p (.slice oa l.orb.length oc) (.slice ra l.reps.length rc);have bd0:=eb.cell d0;have EB:=Aa eb;clear aO hl hp hu hr d1 eb;by_cases hbad:D<l.orb.length
     .have HR:=Aa (aE.o <| by
       rintro⟨_,h⟩;have:=(Oa (h ▸ List.mem_of_getElem? bE.o)).1;omega)
      have h2:(D:Int)<(l.orb.length:Int):=ac;clear hbad;exact zb8
     .have h2:¬(D:Int)<(l.orb.length:Int):=by omega
      by_cases hne:l.reps.length=l.orb.length
      .have h3:((l.reps.length:Int) !=(l.orb.length:Int))=false:=by simp;omega
       have HNE:=Aa hne;clear hne hbad;obtain⟨us,bO,_,bL⟩:=aU.o.vals;have bP:=Aa bL;have bR:=Aa bO;clear bL bO;have cG:=Aa (show ∀u∈us,u.oneCell'=true from fun u hu=>by
        obtain⟨i,hi,e⟩:=List.getElem_of_mem hu;have hul:us.length=l.reps.length:=by have:=bR.o.1;omega
        obtain⟨_,_,rfl,_⟩:=(bP.o i _ u (List.getElem?_eq_getElem ac) ar).open;rfl)
       have aZ:=NO L (k+1);have bY:=Aa (Ps bE.o);rw[bY.o,List.length_append]at aZ;have HB:=Aa (Nat.le_trans aA.o.ex.size EB.o.size);have bU:=Aa (Ai aA.o.own EB.o);have cC:=Aa (bR.o.ex (aA.o.ex.trans EB.o));go_wp2_with (at_builtin;refine A8 _ rfl _ _ 37 rfl w1.heap.size 22 (.slice none 0 0) 1 24 Tryz.underlying37 BB rfl ae (.slice ga (A6 (L.take k)).length gc) (A6 (L.take k)).length vals rfl bU.o (.slice ra l.reps.length rc) l.reps.length us rfl cC.o cG.o ai ac HB.o ?_;intro v' w' aK hg hb;have cI:=Aa (aA.o.app (R:=l.reps) (us:=us) (fun i r u a b=>bP.o i r u a b) aK (Ex.grown (aA.o.ex.trans EB.o) bU.o (Nat.le_refl _) hg));obtain⟨oa',oc',rfl⟩:=Ab aK;clear aK hg hb)
       go_roundw
       case rel=>exact⟨k+1,_,ac,by go_num,by rw[bY.o];exact cI⟩
       case measure=>simp[intOf];omega
      .have h3:((l.reps.length:Int) !=(l.orb.length:Int))=true:=by simp;omega
       have HR:=Aa (aE.o <| by
        rintro⟨_,h⟩;have:=(Oa (h ▸ List.mem_of_getElem? bE.o)).2;omega)
       clear hbad hne;exact zb8
    .obtain rfl:k=L.length:=by omega
     have d0:=aA.o.ex.cell D0.o;have bA:=Ll wr D (A6 (L.take L.length)) _ aA.o.msl ac;rw[List.take_length]at bA;have bI:=Aa bA;have bM:A6 (L.take L.length)=A6 L:=by rw[List.take_length]
     rw[bM];have aG:=Aa aA.o.ex;clear bA bM aA cA;by_cases hg0:DA D (A6 L)=0
     .have aM:CU D (A6 L)=(⟨D,Cd D ((A6 L).map CE) D⟩,0):=by unfold CU;rw[hg0,if_neg ae];rfl
      have bX:=Aa (bG.o hg0);have bF:=Aa (show L≠Cd D ((A6 L).map CE) D->5=A9 D L from fun h=>aE.o fun k=>h k.2);obtain⟨K,hK⟩:=nA (Cd D ((A6 L).map CE) D);rw[hK]at aM bX bF;have aY:=Aa aM;clear hK aM hg0;by_cases hkl:K.length=L.length
      .have hb:((K.length:Int) !=(L.length:Int))=false:=by simp;omega
       have bV:=Aa hkl;clear hkl;go_wp2_with (go_at_call 123;refine bI.o.mono ?_;rintro e w5⟨⟨kv,rfl,aB⟩,aC⟩;rw[aY.o]at aB ⊢;dsimp only at aB ⊢;have cH:=Aa aB;obtain⟨ka,kc,rfl,_,_,aQ⟩:=aB.open3;have bW:=Aa aQ;have aL:=Aa (aG.o.trans aC);have d0:=(aG.o.trans aC).cell D0.o;have d1:=(aG.o.trans aC).cell D1.o;obtain⟨b0,b1,eb⟩:=Ch w5 D (.slice ka K.length kc);have e1:=eb.cell d1;have EB:=Aa eb;clear aB aQ aC eb)
       go_loopw [72] (fun j' wr=>∃(j:Nat),j<=L.length/\j'= .int .i64 j/\Hia (∀i,i<j->L[i]?=K[i]?)/\Hia (Ex (w5.alloc (.cells #[.int .i64 D,.slice ka K.length kc] 43)) wr)) (fun j' _=>L.length-(intOf j').toNat)
       case atStart=>exact⟨0,ac,rfl,Aa (fun i h=>ac),Aa (Ex.refl _)⟩
       case round=>
        clear d0 d1 e1;obtain⟨j,hj,rfl,aD,aF⟩:=hrel;by_cases hjl:j<L.length
        .obtain⟨l,hl⟩:∃l,L[j]?=some l:=⟨_,List.getElem?_eq_getElem hjl⟩;have cB:j<K.length:=by have:=bV.o;omega
         obtain⟨k,hk⟩:∃k,K[j]?=some k:=⟨_,List.getElem?_eq_getElem cB⟩;obtain⟨zb,zo,rfl,aO⟩:=Z3.o ac;obtain⟨yb,yo,rfl,bK⟩:=bW.o ac;have aT:=Aa ((aL.o.trans EB.o).trans aF.o);obtain⟨u,r,c0,c1,c2,hu,hr⟩:=aO j l hl;obtain⟨v,s,f0,f1,f2,hv,hs⟩:=bK j k hk;have c0:=aT.o.cell c0;have c1:=aT.o.cell c1;have c2:=aT.o.cell c2;have f0:=(EB.o.trans aF.o).cell f0;have f1:=(EB.o.trans aF.o).cell f1;have f2:=(EB.o.trans aF.o).cell f2;have b1:=aF.o.cell b1;obtain⟨oa,oc,rfl,_,_,_⟩:=hu.open;obtain⟨ra,rc,rfl,_,_,_⟩:=hr.open;obtain⟨pa,pc,rfl,_,_,_⟩:=hv.open;obtain⟨sa,sc,rfl,_,_,_⟩:=hs.open;have i1:(0:Int)<=(j:Int):=db;have i2:(j:Int)<(L.length:Int):=ac;have i3:(j:Int)<(K.length:Int):=ac;obtain⟨p,hp⟩:=nA l.pt;rw[hp]at c0;obtain⟨t,ht⟩:=nA k.pt;rw[ht]at f0;obtain⟨aV,aW,bS,bT⟩:=Eq hl hk hp ht;obtain⟨a0,a1,a2,ea⟩:=D4 wr p (.slice oa l.orb.length oc) (.slice ra l.reps.length rc);have f0:=ea.cell f0;have f1:=ea.cell f1;have f2:=ea.cell f2;have b1:=ea.cell b1;obtain⟨g0,g1,g2,eg⟩:=D4 (wr.alloc (.cells #[.int .i64 p,.slice oa l.orb.length oc,.slice ra l.reps.length rc] 90)) t (.slice pa k.orb.length pc) (.slice sa k.reps.length sc);obtain⟨cF,cE,aU,bQ,cD,bB⟩:=To ((hu.ex aT.o).ex (ea.trans eg)) (hv.ex ((EB.o.trans aF.o).trans (ea.trans eg))) ((hr.ex aT.o).ex (ea.trans eg)) (hs.ex ((EB.o.trans aF.o).trans (ea.trans eg))) (aF.o.trans (ea.trans eg)) ((aJ.o.trans (aL.o.trans EB.o)).trans (aF.o.trans (ea.trans eg)));have a0:=eg.cell a0;have a1:=eg.cell a1;have a2:=eg.cell a2;have bN:(wr.alloc (.cells #[.int .i64 p,.slice oa l.orb.length oc,.slice ra l.reps.length rc] 90)).heap.size=wr.heap.size+1:=ag;rw[bN]at g0 g1 g2;clear aO bK hl hk hp ht hu hv hr hs ea eg bN;have bH:=Aa (show(L[j]?≠K[j]?)->5=A9 D L from fun h=>bF.o fun e=>h cj);by_cases hpt:p=t
         .subst hpt;have bZ:(p !=p)=false:=by simp
          have A2:=Aa a2;have G2:=Aa g2;have aN:=Hv ((wr.alloc (.cells #[.int .i64 p,.slice oa l.orb.length oc,.slice ra l.reps.length rc] 90)).alloc (.cells #[.int .i64 p,.slice pa k.orb.length pc,.slice sa k.reps.length sc] 90)) l.orb k.orb _ _ cF.o cE.o;by_cases Dz:l.orb=k.orb
          .rw[decide_eq_true Dz]at aN;have aX:=Aa aN;clear aN;by_cases hre:l.reps=k.reps
           .have HE:=Aa (show L[j]?=K[j]? from by
             rw[aV.o,aW.o];have e1:=bS.o;have e2:=bT.o;cases l;cases k
             simp only at Dz hre e1 e2;rw[Dz,hre,e1,e2])
            have bJ:=Aa (show ∀i,i<j+1->L[i]?=K[i]? from fun i hi=>by
             by_cases e:i=j
             .subst e;exact HE.o
             .exact aD.o i ac)
            have bD:=Aa (decide_eq_true hre);clear Dz hre aD;go_wp2_with (first|(go_at_call 101;refine aX.o.mono ?_;rintro e w6⟨rfl,n6,aI⟩;have X6:=(show Ex ((wr.alloc (.cells #[.int .i64 p,.slice oa l.orb.length oc,.slice ra l.reps.length rc] 90)).alloc (.cells #[.int .i64 p,.slice pa k.orb.length pc,.slice sa k.reps.length sc] 90)) w6 from by rw[aI];exact(Ex.refl _).drewN n6);have a2:=X6.cell A2.o;have g2:=X6.cell G2.o;have aH:=Dg w6 l.reps k.reps _ _ (aU.o.ex X6) (bQ.o.ex X6);rw[bD.o]at aH;have aH:=Aa aH;have aS:=Aa X6;clear aI X6)|(go_at_call 128;refine aH.o.mono ?_;rintro e w7⟨rfl,n7,aP⟩;have bC:=Aa (aS.o.trans (show Ex w6 w7 from by rw[aP];exact(Ex.refl w6).drewN n7));clear aP))
            go_roundw
            case rel=>exact⟨j+1,ac,by go_num,bJ,Aa (cD.o.trans bC.o)⟩
            case measure=>simp[intOf];omega
           .have HR:=Aa (bH.o (by
             rw[aV.o,aW.o];intro e;injection e with e;exact hre cj))
            have bD:=Aa (decide_eq_false hre);clear Dz hre aD;go_wp2_with (first|(go_at_call 101;refine aX.o.mono ?_;rintro e w6⟨rfl,n6,aI⟩;have X6:=(show Ex ((wr.alloc (.cells #[.int .i64 p,.slice oa l.orb.length oc,.slice ra l.reps.length rc] 90)).alloc (.cells #[.int .i64 p,.slice pa k.orb.length pc,.slice sa k.reps.length sc] 90)) w6 from by rw[aI];exact(Ex.refl _).drewN n6);have a2:=X6.cell A2.o;have g2:=X6.cell G2.o;have aH:=Dg w6 l.reps k.reps _ _ (aU.o.ex X6) (bQ.o.ex X6);rw[bD.o]at aH;have aH:=Aa aH;have aS:=Aa X6;clear aI X6)|(go_at_call 128;refine aH.o.mono ?_;rintro e w7⟨rfl,n7,aP⟩;have bC:=Aa (aS.o.trans (show Ex w6 w7 from by rw[aP];exact(Ex.refl w6).drewN n7));clear aP))
            go_ret;exact⟨Ag HR.o,bB.o.trans bC.o⟩
          .have HR:=Aa (bH.o (by
            rw[aV.o,aW.o];intro e;injection e with e;exact Dz cj))
           rw[decide_eq_false Dz]at aN;have aX:=Aa aN;clear aN Dz aD;go_wp2_with (go_at_call 101;refine aX.o.mono ?_;rintro e w6⟨rfl,n6,aI⟩;have aS:=Aa (show Ex ((wr.alloc (.cells #[.int .i64 p,.slice oa l.orb.length oc,.slice ra l.reps.length rc] 90)).alloc (.cells #[.int .i64 p,.slice pa k.orb.length pc,.slice sa k.reps.length sc] 90)) w6 from by rw[aI];exact(Ex.refl _).drewN n6);clear aI)
           go_ret;exact⟨Ag HR.o,bB.o.trans aS.o⟩
         .have bZ:(p !=t)=true:=by simpa using hpt
          have HR:=Aa (bH.o (by
           rw[aV.o,aW.o];intro e;injection e with e;have e1:=bS.o;have e2:=bT.o;exact hpt (by rw[<-e1,<-e2,e])))
          clear hpt;go_wp2_with fail
          go_ret;exact⟨Ag HR.o,bB.o⟩
        .obtain rfl:j=L.length:=by omega
         have HR:=Aa (bX.o (Qn bV.o.symm aD.o));go_wp2_with fail
         go_ret;exact⟨Ag HR.o,aJ.o.trans ((aL.o.trans EB.o).trans aF.o)⟩
      .have hb:((K.length:Int) !=(L.length:Int))=true:=by simp;omega
       have HR:=Aa (bF.o fun e=>hkl (by rw[<-e]));clear hkl;go_wp2_with (go_at_call 123;refine bI.o.mono ?_;rintro e w5⟨⟨kv,rfl,aB⟩,aC⟩;rw[aY.o]at aB ⊢;dsimp only at aB ⊢;have cH:=Aa aB;obtain⟨ka,kc,rfl,_,_,aQ⟩:=aB.open3;have bW:=Aa aQ;have aL:=Aa (aG.o.trans aC);have d0:=(aG.o.trans aC).cell D0.o;have d1:=(aG.o.trans aC).cell D1.o;obtain⟨b0,b1,eb⟩:=Ch w5 D (.slice ka K.length kc);have e1:=eb.cell d1;have EB:=Aa eb;clear aB aQ aC eb)
       go_ret;exact⟨Ag HR.o,aJ.o.trans (aL.o.trans EB.o)⟩
     .obtain⟨E,hE⟩:=nA (DA D (A6 L));have aM:CU D (A6 L)=(⟨0, []⟩,E):=by unfold CU;rw[if_pos hg0,hE]
      have aY:=Aa aM;have HR:=Aa (aE.o fun h=>hg0 h.1);rw[hE]at hg0;have hb:(E !=0)=true:=by simpa using hg0
      clear aM hE hg0;go_wp2_with (go_at_call 123;refine bI.o.mono ?_;rintro e w5⟨⟨kv,rfl,aB⟩,aC⟩;rw[aY.o]at aB ⊢;dsimp only at aB ⊢;obtain⟨ka,kc,rfl,_,_,_⟩:=aB.open3;have aL:=Aa (aG.o.trans aC);have d0:=(aG.o.trans aC).cell D0.o;have d1:=(aG.o.trans aC).cell D1.o;obtain⟨b0,b1,eb⟩:=Ch w5 0 (.slice ka 0 kc);have EB:=Aa eb;clear aB aC eb)
      go_ret;exact⟨Ag HR.o,aJ.o.trans (aL.o.trans EB.o)⟩
end Go.Proofs.YtehieobniamagaaGreat
