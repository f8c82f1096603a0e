/- Walk of the pair's search, for both notes (printed by gen_sea.py). -/
import Derived.Test.YtehieobniamagaaGreatZs13
namespace Go.Proofs.YtehieobniamagaaGreat
open Go.RowKit
set_option linter.all false
set_option maxRecDepth 100000
set_option maxHeartbeats 8000000
theorem JN(w:World)(SB aA A:Nat)(nv tv sv:Value)(z:Int)(R:World->Prop)(c0:w.cell? (SB,0)=some (.pointer (some (A,0))))(c1:w.cell? (aA,0)=some nv)
  (HC:∀w',Ex w w'->Calls Tryz.prog 142 #[.pointer (some (A,0)),.agg #[tv,sv],nv] w' fun r w''=>r= .returned (.int .i64 z)/\R w''):
  Calls Tryz.prog 193 #[.agg #[tv,sv],.pointer (some (SB,0)),.pointer (some (aA,0))] w fun r w''=>r= .returned (.int .i64 z)/\R w'':=by
 obtain⟨b0,b1,eb,aB⟩:=AX w tv sv;have c0:=eb.cell c0;have c1:=eb.cell c1;have HX:=Aa (HC _ eb);obtain⟨B,hB⟩:=nA w.heap.size;rw[hB]at b0 b1;clear HC eb aB;go_enter Tryz.func193,Tryz.ntmps193
 go_wp2_with fail
 refine HX.o.mono ?_;rintro e w6⟨rfl,hr⟩;have HR:=Aa hr;clear hr;go_wp2_with fail
 go_ret;exact⟨rfl,HR.o⟩
def XR{σ:Type}(St:σ->World->Prop)(DM:World->Nat->Prop)(SB aA A:Nat)(nv:Value)(s:σ)(w:World):Prop:=
 St s w/\w.cell? (SB,0)=some (.pointer (some (A,0)))/\w.cell? (aA,0)=some nv/\¬DM w SB/\¬DM w aA
theorem XR.stt{σ:Type}{St:σ->World->Prop}{DM:World->Nat->Prop}(H:Vg St DM)(SB NTB A:Nat)(nv:Value):Vg (XR St DM SB NTB A nv) DM where
 ex:=fun s w w' h hx=>⟨H.ex _ _ _ h.1 hx,hx.cell h.2.1,hx.cell h.2.2.1,fun hd=>h.2.2.2.1 (H.dx _ _ _ _ h.1 hx hd),fun hd=>h.2.2.2.2 (H.dx _ _ _ _ h.1 hx hd)⟩
 lt:=fun s w B h hd=>H.lt s w B h.1 hd
 dx:=fun s w w' B h hx hd=>H.dx s w w' B h.1 hx hd
theorem XR.keep{σ:Type}{St:σ->World->Prop}{DM:World->Nat->Prop}{SB aA A:Nat}{nv:Value}{s s':σ}{w w':World}(h:XR St DM SB aA A nv s w)(hs:St s' w')(k:AO DM w w'):XR St DM SB aA A nv s' w':=
 ⟨hs,k.cell h.2.2.2.1 h.2.1,k.cell h.2.2.2.2 h.2.2.1,(k.blk SB (World.block_lt_of_cell? _ _ h.2.1) h.2.2.2.1).2,(k.blk aA (World.block_lt_of_cell? _ _ h.2.2.1) h.2.2.2.2).2⟩
theorem I7{l:List Int}{n:Nat}{j:Nat}(h:BB l n=true)(hj:j<n):BB (l ++ [(j:Int)]) n=true:=by
 unfold BB at *;rw[List.all_append,h];simp;omega
structure SrE(p m:Nat)(ml:List Int)(l1 l2:List (List Int))(n A b x0:Nat)(v1 v2:Value)(St:Nat × List Nd->World->Prop)(DM:World->Nat->Prop):Prop where
 stt:Vg St DM
 pr:∀s w,St s w->Mv w A b n v1 v2
 gf:∀s w,St s w->Bh w b p m ml x0
 m1:∀s w,St s w->BZ w v1 l1
 m2:∀s w,St s w->BZ w v2 l2
 c11:∀s w,St s w->w.cell? (A,11)=some (.int .i64 s.1)/\w.frozen? (A,11)=false
 le:∀s w,St s w->s.2.length<=s.1/\s.1<=65536
 seen:∀s w,St s w->s.1<65536->St (s.1+1,s.2) (w.setCell (A,11) (.int .i64 ((s.1:Int)+1)))/\AO DM w (w.setCell (A,11) (.int .i64 ((s.1:Int)+1)))
 x1:1<=x0
 x2:x0<p^m
 n64:n<=64
 r1:∀r∈l1,r.length=n
 r2:∀r∈l2,r.length=n
 k1:l1.length<=256
 k2:l2.length<=256
def srS(p m:Nat)(ml:List Int)(l1 l2:List (List Int))(s:Nat × List Nd)(tl sl:List Int):Nat × List Nd:=(s.1+1,s.2 ++ [⟨tl,sl,(Fb p m ml l1 l2 tl sl).1,J0 l1.length l2.length (Fb p m ml l1 l2 tl sl)⟩])
def Ya(p m:Nat)(ml:List Int)(l1 l2:List (List Int))(n:Nat)(s:Nat × List Nd)(tl sl:List Int)(X:(Nat × List Nd) × Int):(Nat × List Nd) × Int:=
 if s.1=65536 then(s,8) else if 0<=(Fb p m ml l1 l2 tl sl).1 then(srS p m ml l1 l2 s tl sl,0) else if tl.length=n then(srS p m ml l1 l2 s tl sl,18) else X
theorem Pp(p m:Nat)(ml:List Int)(l1 l2:List (List Int))(n:Nat)(s:Nat × List Nd)(tl sl:List Int):Mj p m ml l1 l2 n 0 s tl sl=Ya p m ml l1 l2 n s tl sl (srS p m ml l1 l2 s tl sl,0):=rfl
theorem Pq(p m:Nat)(ml:List Int)(l1 l2:List (List Int))(n d:Nat)(s:Nat × List Nd)(tl sl:List Int):Mj p m ml l1 l2 n (d+1) s tl sl=Ya p m ml l1 l2 n s tl sl (Eh (Mj p m ml l1 l2 n d) (p^m) tl sl n (srS p m ml l1 l2 s tl sl)):=rfl
theorem Pd{R1 R2:Nat}(h1:R1<=256)(h2:R2<=256)(s:Int × Int):(J0 R1 R2 s).length<=256:=by
 unfold J0 SF;split
 .rw[AL];exact h1
 .split
  .rw[AL];exact h2
  .simp
theorem zab{P:Prop}(h:P:=by
 have cC:s.1<65536:=by omega
 have cF:((s.1:Int)==65536)=false:=by simp;omega
 have aZ:(s.1==65536)=false:=by simp;omega
 have bH:=aB.o;rw[if_neg h0]at bH;have aB:=Aa bH;obtain⟨bP,bV⟩:=HH.o.seen _ _ bJ.o cC;have aE:=Aa bP;have aC:=Aa bV;have aV:=aC.o.cell (aP.o SB (by omega)) s0;have bF:=aC.o.cell (aP.o (SB+1) (by omega)) b0;have bE:=aC.o.cell (aP.o (SB+1) (by omega)) b1;have aW:=aC.o.cell (aP.o (SB+1+1) (by omega)) n0;obtain⟨aO,aN,aJ,aI⟩:=Eq (cM.o.keep aC.o) (cJ.o.keep aC.o) (show(∀B,SB<=B->B<wC.heap.size->¬DM (wC.setCell (A,11) (.int .i64 ((s.1:Int)+1))) B) from fun B h1 h2=>(aC.o.blk B h2 (aP.o B h1)).2) (show SB<wC.heap.size/\SB+1<wC.heap.size/\SB+1+1<wC.heap.size from⟨World.block_lt_of_cell? _ _ s0,World.block_lt_of_cell? _ _ b0,World.block_lt_of_cell? _ _ n0⟩);have bI:=Aa (JK (wC.setCell (A,11) (.int .i64 ((s.1:Int)+1))) (HH.o.gf _ _ aE.o) HH.o.x1 HH.o.x2 A n HH.o.n64 v1 v2 (HH.o.pr _ _ aE.o) l1 l2 (HH.o.m1 _ _ aE.o) (HH.o.m2 _ _ aE.o) HH.o.r1 HH.o.r2 HH.o.k1 HH.o.k2 tl sl (.slice ta tl.length tc) sv aO.o.1 aN.o.1 bZ.o cB cR.o);clear bP bV bH h0;obtain⟨wD,aX⟩:=nA (wC.setCell (A,11) (.int .i64 ((s.1:Int)+1)));rw[aX]at aE aC aO aN aJ bI aV bF bE aW;go_wp2_with fail
 try simp only[aX]
 clear aX s0 b0 b1 n0 cH cG;refine bI.o.mono ?_;rintro e w5⟨mv,rfl,bT,bU,aG⟩;have cQ:=Aa (HH.o.stt.ex _ _ _ aE.o aG);have aL:=Aa (HH.o.stt.keeps aE.o aG);have n5:=aG.cell aW;have b5:=aG.cell bF;have bD:=aG.cell bE;have s5:=aG.cell aV;have cT:=Aa (show C6 DM w5 mv (J0 l1.length l2.length (Fb p m ml l1 l2 tl sl)) from C6.fresh bT fun B hB=>HH.o.stt.new aE.o aG (bU B hB));obtain⟨aR,aH,cO,cL,aK⟩:=Of (HN.o (s.1+1,s.2) w5 tl sl (.slice ta tl.length tc) sv (Fb p m ml l1 l2 tl sl).1 _ mv cQ.o (by show s.2.length<s.1+1;omega) (aO.o.keep aL.o) (aN.o.keep aL.o) cT.o bZ.o (by omega) (Pd HH.o.k1 HH.o.k2 _) cS.o) (fun B (h1:SB<=B) (h2:B<wC.heap.size)=>(aL.o.blk B (Nat.lt_of_lt_of_le h2 aC.o.size) (aJ.o B h1 h2)).2) (aO.o.keep aL.o) (aN.o.keep aL.o) (aU.o.trans (aC.o.trans aL.o));clear bT bU aG bI aV bF bE aW aE aO aN aJ;obtain⟨Wi,aT⟩:∃W,(Fb p m ml l1 l2 tl sl).1=W:=⟨_,rfl⟩;rw[aT]at aR aB
 try simp only[aT]
 obtain⟨S1,bC⟩:=nA (srS p m ml l1 l2 s tl sl);have aM:(s.1+1,s.2 ++ [⟨tl,sl,Wi,J0 l1.length l2.length (Fb p m ml l1 l2 tl sl)⟩])=S1:=by rw[<-bC,<-aT];rfl
 rw[aM]at aR;rw[bC]at aB HX;clear aT bC aM;by_cases hW:0<=Wi
 .have cE:decide ((0:Int)<=Wi)=true:=by simpa using hW
  have hy:=aB.o;rw[if_pos hW]at hy;subst hy;clear hW aB HX;go_wp2_with (refine aR.o.mono ?_;rintro e w6⟨⟨t,rfl⟩,aD,aA⟩;have aF:=Aa aD;have aQ:=Aa (aK.o.trans aA);clear aD aA)
  go_ret;exact⟨rfl,aF.o,aQ.o⟩
 .have cE:decide ((0:Int)<=Wi)=false:=by simpa using hW
  have bG:=aB.o;rw[if_neg hW]at bG;have aB:=Aa bG;clear hW bG;by_cases hn:tl.length=n
  .have hy:=aB.o;rw[if_pos hn]at hy;subst hy;have cD:((tl.length:Int)==(n:Int))=true:=by simp;omega
   have aY:(tl.length==n)=true:=by simp;omega
   have HA:=Aa (fun w' (h:St S1 w')=>(HH.o.pr _ _ h).c4);clear hn aB HX;go_wp2_with (refine aR.o.mono ?_;rintro e w6⟨⟨t,rfl⟩,aD,aA⟩;have a4:=HA.o w6 aD;have s6:=aA.cell (aH.o SB (by omega) aI.o.1) s5;have b6:=aA.cell (aH.o (SB+1) (by omega) aI.o.2.1) b5;have aF:=Aa aD;have aQ:=Aa (aK.o.trans aA);clear aD aA s5 b5 bD n5)
   go_quiet (fail)
   go_wp2_with fail
   go_ret;exact⟨rfl,HH.o.stt.ex _ _ _ aF.o ((Ex.refl _).drewN _),aQ.o.trans (HH.o.stt.keeps aF.o ((Ex.refl _).drewN _))⟩
  .have hy:=aB.o;rw[if_neg hn]at hy;subst hy;have cD:((tl.length:Int)==(n:Int))=false:=by simp;omega
   have aY:(tl.length==n)=false:=by simp;omega
   have HA:=Aa (fun w' (h:St S1 w')=>(HH.o.pr _ _ h).c4);have bY:=Aa (HX.o hn);clear hn aB HX;go_wp2_with (refine aR.o.mono ?_;rintro e w6⟨⟨t,rfl⟩,aD,aA⟩;have a4:=HA.o w6 aD;have s6:=aA.cell (aH.o SB (by omega) aI.o.1) s5;have b6:=aA.cell (aH.o (SB+1) (by omega) aI.o.2.1) b5;have b6':=aA.cell (aH.o (SB+1) (by omega) aI.o.2.1) bD;have n6:=aA.cell (aH.o (SB+1+1) (by omega) aI.o.2.2) n5;have aF:=Aa aD;have aQ:=Aa (aK.o.trans aA);have cA:=Aa aA;have cN:=Aa (cO.o.keep aA);have cK:=Aa (cL.o.keep aA);clear aD aA s5 b5 bD n5)
   have bK:=Aa (fun B (h1:SB<=B) (h2:B<wC.heap.size)=>(cA.o.blk B (Nat.lt_of_lt_of_le h2 (Nat.le_trans aC.o.size aL.o.size)) (aH.o B h1 h2)).2);have cI:=Aa (fun k=>bY.o (w6.drewN k) SB (SB+1+1) ((XR.stt HH.o.stt SB (SB+1+1) A _).ex _ _ _ ⟨aF.o,s6,n6,bK.o SB (by omega) aI.o.1,bK.o (SB+1+1) (by omega) aI.o.2.2⟩ ((Ex.refl _).drewN k)) (cN.o.keep (HH.o.stt.keeps aF.o ((Ex.refl _).drewN k))) (cK.o.keep (HH.o.stt.keeps aF.o ((Ex.refl _).drewN k))));have cU:=Aa (fun k=>aQ.o.trans (HH.o.stt.keeps aF.o ((Ex.refl w6).drewN k)));clear bY cA aH bK
   go_quiet (fail)
   go_wp2_with (go_at_call 181;refine(cI.o _).mono ?_;rintro e w8⟨rfl,bQ,bW⟩;have cP:=Aa bQ;have cV:=Aa ((cU.o _).trans bW);clear bQ bW)
   go_ret;exact⟨rfl,cP.o,cV.o⟩):P:=h
theorem zap{P:Prop}(h:P:=by
 have cF:((s.1:Int)==65536)=true:=by simp;omega
 have aZ:(s.1==65536)=true:=by simp;omega
 have hy:=aB.o;rw[if_pos h0]at hy;subst hy;go_wp2_with fail
 go_ret;exact⟨rfl,bJ.o,aU.o⟩):P:=h
theorem QP{p m:Nat}{ml:List Int}{l1 l2:List (List Int)}{n A b x0:Nat}{v1 v2:Value}{St:Nat × List Nd->World->Prop}{DM:World->Nat->Prop}(H:SrE p m ml l1 l2 n A b x0 v1 v2 St DM)(p0:Value)
  (hN:∀s w (tl sl:List Int) tv sv side msg mv,St s w->s.2.length<s.1->C6 DM w tv tl->C6 DM w sv sl->C6 DM w mv msg->sl.length=tl.length->tl.length<=64->msg.length<=256->(s.2≠ []->tl≠ [])->Calls Tryz.prog 172 #[.agg #[tv,sv],.int .i64 side,mv,p0] w fun r w'=>(∃t,r= .returned t)/\St (s.1,s.2 ++ [⟨tl,sl,side,msg⟩]) w'/\AO DM w w')
  (s:Nat × List Nd) (w:World) (tl sl:List Int) (tv sv:Value) (X:(Nat × List Nd) × Int) (cB:tl.length<=n) (bO:sl.length=tl.length) (bR:BB tl n=true) (bS:s.2≠ []->tl≠ []) (hs:St s w) (ht:C6 DM w tv tl) (bN:C6 DM w sv sl)
  (hX:tl.length≠n->∀w' SB bX,XR St DM SB bX A (.func (.func 172) #[] #[p0]) (srS p m ml l1 l2 s tl sl) w'->C6 DM w' tv tl->C6 DM w' sv sl->Calls Tryz.prog 181 #[.pointer (some (A,0)),.agg #[tv,sv],.func (.func 193) #[] #[.pointer (some ⟨SB,0,none⟩),.pointer (some ⟨bX,0,none⟩)]] w' fun r w''=>r= .returned (.int .i64 X.2)/\St X.1 w''/\AO DM w' w''):
  Calls Tryz.prog 142 #[.pointer (some (A,0)),.agg #[tv,sv],.func (.func 172) #[] #[p0]] w fun r w'=>r= .returned (.int .i64 (Ya p m ml l1 l2 n s tl sl X).2)/\St (Ya p m ml l1 l2 n s tl sl X).1 w'/\AO DM w w':=by
 have e1:=AI w (.cells #[.pointer (some ⟨A,0,none⟩)] 186);have s0:(w.alloc (.cells #[.pointer (some ⟨A,0,none⟩)] 186)).cell? (w.heap.size,0)=some (.pointer (some (A,0))):=ag;have bM:(w.alloc (.cells #[.pointer (some ⟨A,0,none⟩)] 186)).heap.size=w.heap.size+1:=ag;obtain⟨b0,b1,e2,bL⟩:=AX (w.alloc (.cells #[.pointer (some ⟨A,0,none⟩)] 186)) tv sv;have e3:=AI ((w.alloc (.cells #[.pointer (some ⟨A,0,none⟩)] 186)).alloc (.cells #[tv,sv] 71)) (.cells #[.func (.func 172) #[] #[p0]] 190);have n0:(((w.alloc (.cells #[.pointer (some ⟨A,0,none⟩)] 186)).alloc (.cells #[tv,sv] 71)).alloc (.cells #[.func (.func 172) #[] #[p0]] 190)).cell? (w.heap.size+1+1,0)=some (.func (.func 172) #[] #[p0]):=by
  exact A6 _ _ _ ag
 rw[bM]at b0 b1 bL;replace s0:=(e2.trans e3).cell s0;replace b0:=e3.cell b0;replace b1:=e3.cell b1;have aS:=e1.trans (e2.trans e3);have bJ:=Aa (H.stt.ex _ _ _ hs aS);have aU:=Aa (H.stt.keeps hs aS);have cM:=Aa (ht.keep aU.o);have cJ:=Aa (bN.keep aU.o);obtain⟨SB,bB⟩:∃B,w.heap.size=B:=⟨_,rfl⟩;rw[bB]at s0 b0 b1 n0;have aP:=Aa (fun B (h:SB<=B)=>H.stt.new hs aS (B:=B) ac);obtain⟨cH,cG⟩:=H.c11 _ _ bJ.o;have hle:=H.le _ _ hs;obtain⟨ta,tc,rfl,-,t2,-⟩:=ht.1.open;unfold maxLen at t2;obtain⟨HH,HN,HX,cR,cS,bZ⟩:=To H hN hX bR bS bO;have h64:=H.n64;obtain⟨Y,hY⟩:=nA (Ya p m ml l1 l2 n s tl sl X);have bA:=hY;unfold Ya at bA;rw[hY];have aB:=Aa bA;clear hs ht bN H hN hX bR bS bO e1 e2 e3 bM bL aS hY bA;go_enter Tryz.func142,Tryz.ntmps142
 go_upto_region 1 with fail
 try simp only[bB]
 clear bB;generalize ((w.alloc (.cells #[.pointer (some ⟨A,0,none⟩)] 186)).alloc (.cells #[.slice ta tl.length tc,sv] 71)).alloc (.cells #[.func (.func 172) #[] #[p0]] 190)=wC at *;by_cases h0:s.1=65536
 .exact zap
 .exact zab
theorem zah{P:Prop}(h:P:=by
 refine(JN w1 SB aF A _ aG aH (Mj p m ml l1 l2 n d s1 (tl ++ [(j:Int)]) (sl ++ [(c:Int)])).2 (fun w''=>St (Mj p m ml l1 l2 n d s1 (tl ++ [(j:Int)]) (sl ++ [(c:Int)])).1 w''/\AO DM w1 w'') h1.2.1 h1.2.2.1 (fun w2 aI=>?_)).mono ?_
 .have aE:=H.stt.keeps h1.1 aI;refine(ih s1 w2 (tl ++ [(j:Int)]) (sl ++ [(c:Int)]) aG aH (by rw[List.length_append];simp;omega) (by simp[aA]) (I7 aB hj) (fun _=>by simp) (H.stt.ex _ _ _ h1.1 aI) (aK.keep aE) (aM.keep aE)).mono ?_;rintro r w3⟨rfl,h3,h4⟩;exact⟨rfl,h3,aE.trans h4⟩
 .rintro r w3⟨rfl,h3,h4⟩;exact⟨rfl,h1.keep h3 h4,h4⟩):P:=h
theorem Rk{p m:Nat}{ml:List Int}{l1 l2:List (List Int)}{n A b x0:Nat}{v1 v2:Value}{St:Nat × List Nd->World->Prop}{DM:World->Nat->Prop}(H:SrE p m ml l1 l2 n A b x0 v1 v2 St DM)(p0:Value)
  (hN:∀s w (tl sl:List Int) tv sv side msg mv,St s w->s.2.length<s.1->C6 DM w tv tl->C6 DM w sv sl->C6 DM w mv msg->sl.length=tl.length->tl.length<=64->msg.length<=256->(s.2≠ []->tl≠ [])->Calls Tryz.prog 172 #[.agg #[tv,sv],.int .i64 side,mv,p0] w fun r w'=>(∃t,r= .returned t)/\St (s.1,s.2 ++ [⟨tl,sl,side,msg⟩]) w'/\AO DM w w'):
  ∀(d:Nat) (s:Nat × List Nd) (w:World) (tl sl:List Int) (tv sv:Value),tl.length+d=n->sl.length=tl.length->BB tl n=true->(s.2≠ []->tl≠ [])->St s w->C6 DM w tv tl->C6 DM w sv sl->
  Calls Tryz.prog 142 #[.pointer (some (A,0)),.agg #[tv,sv],.func (.func 172) #[] #[p0]] w fun r w'=>r= .returned (.int .i64 (Mj p m ml l1 l2 n d s tl sl).2)/\St (Mj p m ml l1 l2 n d s tl sl).1 w'/\AO DM w w':=by
 intro d
 induction d with
 | zero=>
  intro s w tl sl tv sv hd aA aB aD hs ht aC;rw[Pp];exact QP H p0 hN s w tl sl tv sv _ ac aA aB aD hs ht aC fun h=>absurd hd ac
 | succ d ih=>
  intro s w tl sl tv sv hd aA aB aD hs ht aC;rw[Pq];refine QP H p0 hN s w tl sl tv sv _ ac aA aB aD hs ht aC fun hn w' SB aF hb aL aN=>?_;have aJ:=H.gf _ _ hb.1;have hq:=aJ.sh.q;have hq2:=aJ.sh.p2;have hN64:=H.n64;have aO:tl.length<=64:=bf;refine(TC (XR.stt H.stt SB aF A (.func (.func 172) #[] #[p0])) (Mj p m ml l1 l2 n d) w' A b n (p^m) (Nat.pow_pos ac) hq H.n64 (.pointer (some ⟨SB,0,none⟩)) (.pointer (some ⟨aF,0,none⟩)) tl sl tv sv (fun s1 w1 h1=>⟨(H.pr _ _ h1.1).c0,(H.pr _ _ h1.1).c4,Cs w1 (H.gf _ _ h1.1)⟩) (fun s1 w1 j c aG aH h1 hj hc hc1 hcq aK aM=>?_) aO ac _ hb aL aN).mono ?_
  .exact zah
  .rintro r w3⟨rfl,h3,h4⟩;exact⟨rfl,h3.1,h4⟩
theorem QO{p m:Nat}{ml:List Int}{l1 l2:List (List Int)}{n A b x0:Nat}{v1 v2:Value}{St:Nat × List Nd->World->Prop}{DM:World->Nat->Prop}(H:SrE p m ml l1 l2 n A b x0 v1 v2 St DM)(p0:Value)
  (hN:∀s w (tl sl:List Int) tv sv side msg mv,St s w->s.2.length<s.1->C6 DM w tv tl->C6 DM w sv sl->C6 DM w mv msg->sl.length=tl.length->tl.length<=64->msg.length<=256->(s.2≠ []->tl≠ [])->Calls Tryz.prog 143 #[.agg #[tv,sv],.int .i64 side,mv,p0] w fun r w'=>(∃t,r= .returned t)/\St (s.1,s.2 ++ [⟨tl,sl,side,msg⟩]) w'/\AO DM w w')
  (s:Nat × List Nd) (w:World) (tl sl:List Int) (tv sv:Value) (X:(Nat × List Nd) × Int) (cB:tl.length<=n) (bO:sl.length=tl.length) (bR:BB tl n=true) (bS:s.2≠ []->tl≠ []) (hs:St s w) (ht:C6 DM w tv tl) (bN:C6 DM w sv sl)
  (hX:tl.length≠n->∀w' SB bX,XR St DM SB bX A (.func (.func 143) #[] #[p0]) (srS p m ml l1 l2 s tl sl) w'->C6 DM w' tv tl->C6 DM w' sv sl->Calls Tryz.prog 181 #[.pointer (some (A,0)),.agg #[tv,sv],.func (.func 193) #[] #[.pointer (some ⟨SB,0,none⟩),.pointer (some ⟨bX,0,none⟩)]] w' fun r w''=>r= .returned (.int .i64 X.2)/\St X.1 w''/\AO DM w' w''):
  Calls Tryz.prog 142 #[.pointer (some (A,0)),.agg #[tv,sv],.func (.func 143) #[] #[p0]] w fun r w'=>r= .returned (.int .i64 (Ya p m ml l1 l2 n s tl sl X).2)/\St (Ya p m ml l1 l2 n s tl sl X).1 w'/\AO DM w w':=by
 have e1:=AI w (.cells #[.pointer (some ⟨A,0,none⟩)] 186);have s0:(w.alloc (.cells #[.pointer (some ⟨A,0,none⟩)] 186)).cell? (w.heap.size,0)=some (.pointer (some (A,0))):=ag;have bM:(w.alloc (.cells #[.pointer (some ⟨A,0,none⟩)] 186)).heap.size=w.heap.size+1:=ag;obtain⟨b0,b1,e2,bL⟩:=AX (w.alloc (.cells #[.pointer (some ⟨A,0,none⟩)] 186)) tv sv;have e3:=AI ((w.alloc (.cells #[.pointer (some ⟨A,0,none⟩)] 186)).alloc (.cells #[tv,sv] 71)) (.cells #[.func (.func 143) #[] #[p0]] 190);have n0:(((w.alloc (.cells #[.pointer (some ⟨A,0,none⟩)] 186)).alloc (.cells #[tv,sv] 71)).alloc (.cells #[.func (.func 143) #[] #[p0]] 190)).cell? (w.heap.size+1+1,0)=some (.func (.func 143) #[] #[p0]):=by
  exact A6 _ _ _ ag
 rw[bM]at b0 b1 bL;replace s0:=(e2.trans e3).cell s0;replace b0:=e3.cell b0;replace b1:=e3.cell b1;have aS:=e1.trans (e2.trans e3);have bJ:=Aa (H.stt.ex _ _ _ hs aS);have aU:=Aa (H.stt.keeps hs aS);have cM:=Aa (ht.keep aU.o);have cJ:=Aa (bN.keep aU.o);obtain⟨SB,bB⟩:∃B,w.heap.size=B:=⟨_,rfl⟩;rw[bB]at s0 b0 b1 n0;have aP:=Aa (fun B (h:SB<=B)=>H.stt.new hs aS (B:=B) ac);obtain⟨cH,cG⟩:=H.c11 _ _ bJ.o;have hle:=H.le _ _ hs;obtain⟨ta,tc,rfl,-,t2,-⟩:=ht.1.open;unfold maxLen at t2;obtain⟨HH,HN,HX,cR,cS,bZ⟩:=To H hN hX bR bS bO;have h64:=H.n64;obtain⟨Y,hY⟩:=nA (Ya p m ml l1 l2 n s tl sl X);have bA:=hY;unfold Ya at bA;rw[hY];have aB:=Aa bA;clear hs ht bN H hN hX bR bS bO e1 e2 e3 bM bL aS hY bA;go_enter Tryz.func142,Tryz.ntmps142
 go_upto_region 1 with fail
 try simp only[bB]
 clear bB;generalize ((w.alloc (.cells #[.pointer (some ⟨A,0,none⟩)] 186)).alloc (.cells #[.slice ta tl.length tc,sv] 71)).alloc (.cells #[.func (.func 143) #[] #[p0]] 190)=wC at *;by_cases h0:s.1=65536
 .exact zap
 .exact zab
theorem Rj{p m:Nat}{ml:List Int}{l1 l2:List (List Int)}{n A b x0:Nat}{v1 v2:Value}{St:Nat × List Nd->World->Prop}{DM:World->Nat->Prop}(H:SrE p m ml l1 l2 n A b x0 v1 v2 St DM)(p0:Value)
  (hN:∀s w (tl sl:List Int) tv sv side msg mv,St s w->s.2.length<s.1->C6 DM w tv tl->C6 DM w sv sl->C6 DM w mv msg->sl.length=tl.length->tl.length<=64->msg.length<=256->(s.2≠ []->tl≠ [])->Calls Tryz.prog 143 #[.agg #[tv,sv],.int .i64 side,mv,p0] w fun r w'=>(∃t,r= .returned t)/\St (s.1,s.2 ++ [⟨tl,sl,side,msg⟩]) w'/\AO DM w w'):
  ∀(d:Nat) (s:Nat × List Nd) (w:World) (tl sl:List Int) (tv sv:Value),tl.length+d=n->sl.length=tl.length->BB tl n=true->(s.2≠ []->tl≠ [])->St s w->C6 DM w tv tl->C6 DM w sv sl->
  Calls Tryz.prog 142 #[.pointer (some (A,0)),.agg #[tv,sv],.func (.func 143) #[] #[p0]] w fun r w'=>r= .returned (.int .i64 (Mj p m ml l1 l2 n d s tl sl).2)/\St (Mj p m ml l1 l2 n d s tl sl).1 w'/\AO DM w w':=by
 intro d
 induction d with
 | zero=>
  intro s w tl sl tv sv hd aA aB aD hs ht aC;rw[Pp];exact QO H p0 hN s w tl sl tv sv _ ac aA aB aD hs ht aC fun h=>absurd hd ac
 | succ d ih=>
  intro s w tl sl tv sv hd aA aB aD hs ht aC;rw[Pq];refine QO H p0 hN s w tl sl tv sv _ ac aA aB aD hs ht aC fun hn w' SB aF hb aL aN=>?_;have aJ:=H.gf _ _ hb.1;have hq:=aJ.sh.q;have hq2:=aJ.sh.p2;have hN64:=H.n64;have aO:tl.length<=64:=bf;refine(TC (XR.stt H.stt SB aF A (.func (.func 143) #[] #[p0])) (Mj p m ml l1 l2 n d) w' A b n (p^m) (Nat.pow_pos ac) hq H.n64 (.pointer (some ⟨SB,0,none⟩)) (.pointer (some ⟨aF,0,none⟩)) tl sl tv sv (fun s1 w1 h1=>⟨(H.pr _ _ h1.1).c0,(H.pr _ _ h1.1).c4,Cs w1 (H.gf _ _ h1.1)⟩) (fun s1 w1 j c aG aH h1 hj hc hc1 hcq aK aM=>?_) aO ac _ hb aL aN).mono ?_
  .exact zah
  .rintro r w3⟨rfl,h3,h4⟩;exact⟨rfl,h3.1,h4⟩
def Gd(e1 e2:Int)(aA:Bool)(n n':Int)(tl sl:List Int)(q:Nat):Int:=
 if e1≠0 then e1 else if e2≠0 then e2 else if aA=false∨n≠n' then 10 else if tl.length≠sl.length∨n<tl.length then 3 else if FX tl n≠0 then FX tl n else EU q sl
structure AT where
 p:Int
 m:Int
 ml:List Int
 n:Int
 rows:List (List Int)
def AT.arg(c:AT)(mv gv:Value):Value:= .agg #[c.p,c.m,mv,c.n,gv]
def AT.obj(c:AT)(mv gv:Value):Obj:= .cells #[c.p,c.m,mv,c.n,gv] 39
structure AT.at(c:AT)(w:World)(mv gv:Value):Prop where
 m:Al w mv c.ml
 g:BZ w gv c.rows
theorem AT.at.ex{c:AT}{w w':World}{mv gv:Value}(h:c.at w mv gv)(hx:Ex w w'):c.at w' mv gv:=⟨h.m.ex hx,h.g.ex hx⟩
def StO(c d:AT)(tl sl:List Int)(v1 v2:Value)(w:World)(r:Ending)(w':World):Prop:=
 ∃e1 e2:Int,BI c.p c.m c.ml c.n c.rows e1/\(e1=0->BI d.p d.m d.ml d.n d.rows e2)/\
  ((Gd e1 e2 (CA c.p c.m c.ml d.p d.m d.ml) c.n d.n tl sl (c.p.toNat^c.m.toNat)≠0/\∃ptr:Option Addr,r= .returned (.tuple #[.pointer ptr,.int .i64 (Gd e1 e2 (CA c.p c.m c.ml d.p d.m d.ml) c.n d.n tl sl (c.p.toNat^c.m.toNat))]))∨
  (Gd e1 e2 (CA c.p c.m c.ml d.p d.m d.ml) c.n d.n tl sl (c.p.toNat^c.m.toNat)=0/\∃(w2:World) (A b x0 pn mn nn:Nat),c.p=pn/\c.m=mn/\c.n=nn/\r= .returned (.tuple #[.pointer (some (A,0)),(0:Int)])/\Ex w w2/\Bh w2 b pn mn c.ml x0/\1<=x0/\x0<pn^mn/\w2.heap.size<=A/\Ex w2 w'/\Mv w' A b nn v1 v2/\w'.cell? (A,11)=some (.int .i64 0)/\w'.frozen? (A,11)=false))
theorem EI{p m:Int}{ml:List Int}{n:Int}{rows:List (List Int)}(h:BI p m ml n rows 0):Ga p m ml/\1<=n/\n<=64:=by
 rcases h with⟨_,h⟩|⟨_,h1,h2⟩|⟨h1,h2,h3⟩
 .cases h
 .exact absurd h2.symm h1
 .refine⟨?_,?_⟩
  .rcases h3 with⟨h3,h4⟩|⟨_,pn,mn,N,piv,a',_,_,_,h,_⟩
   .exact absurd h4.symm h3
   .exact h
  .unfold ET at h2;split at h2
   .cases h2
   .omega
theorem CY(w:World)(c:AT)(mv gv:Value):(w.alloc (c.obj mv gv)).cell? (w.heap.size,0)=some (.int .i64 c.p)/\(w.alloc (c.obj mv gv)).cell? (w.heap.size,1)=some (.int .i64 c.m)/\(w.alloc (c.obj mv gv)).cell? (w.heap.size,2)=some mv/\(w.alloc (c.obj mv gv)).cell? (w.heap.size,3)=some (.int .i64 c.n)/\(w.alloc (c.obj mv gv)).cell? (w.heap.size,4)=some gv:=
 ⟨by simp[AT.obj],by simp[AT.obj],by simp[AT.obj],by simp[AT.obj],by simp[AT.obj]⟩
theorem Gq{c d:AT}{tl sl:List Int}{v1 v2:Value}{w w':World}{e1 e2 E:Int}(h1:BI c.p c.m c.ml c.n c.rows e1)(h2:e1=0->BI d.p d.m d.ml d.n d.rows e2)(hE:Gd e1 e2 (CA c.p c.m c.ml d.p d.m d.ml) c.n d.n tl sl (c.p.toNat^c.m.toNat)=E)(h:E≠0)(aA:Option Addr):
  StO c d tl sl v1 v2 w (.returned (.tuple #[.pointer aA,E])) w':=
 ⟨e1,e2,h1,h2,.inl ⟨by rw[hE];exact h,aA,by rw[hE]⟩⟩
theorem zbe{P:Prop}(h:P:=by
 go_wp2_with (go_at_call 191;refine aG.o.mono ?_;rintro e w4⟨rfl,aC⟩;have aB:=Aa (aE.o.trans aC);clear c0 c1 c2 c3 c4 d0 d1 d2 d3 d4 b0 b1;obtain⟨c0,c1,c2,c3,c4,d0,d1,d2,d3,d4,b0,b1⟩:=aA.o w4 aB.o;clear aC)
 go_ret2;exact⟨Gq aD.o (fun _=>aF.o) HE.o (by decide) _,HX.o.trans aB.o⟩):P:=h
theorem br{P:Prop}(h:P:=by simpa using h1):P:=h
theorem I3(w:World)(c d:AT)(m1 m2 v1 v2:Value)(hc:c.at w m1 v1)(hd:d.at w m2 v2)(tl sl:List Int)(tv sv:Value)(ht:Al w tv tl)(hs:Al w sv sl):
  Calls Tryz.prog 141 #[c.arg m1 v1,d.arg m2 v2,.agg #[tv,sv]] w fun r w'=>StO c d tl sl v1 v2 w r w'/\Ex w w':=by
 obtain⟨c0,c1,c2,c3,c4⟩:=CY w c m1 v1;obtain⟨d0,d1,d2,d3,d4⟩:=CY (w.alloc (c.obj m1 v1)) d m2 v2;obtain⟨b0,b1,e3,-⟩:=AX ((w.alloc (c.obj m1 v1)).alloc (d.obj m2 v2)) tv sv;have aW:(w.alloc (c.obj m1 v1)).heap.size=w.heap.size+1:=ag;have aV:((w.alloc (c.obj m1 v1)).alloc (d.obj m2 v2)).heap.size=w.heap.size+1+1:=ag;have e1:=AI w (c.obj m1 v1);have e2:=AI (w.alloc (c.obj m1 v1)) (d.obj m2 v2);rw[aW]at d0 d1 d2 d3 d4;rw[aV]at b0 b1;have aX:=e1.trans (e2.trans e3);replace c0:=(e2.trans e3).cell c0;replace c1:=(e2.trans e3).cell c1;replace c2:=(e2.trans e3).cell c2;replace c3:=(e2.trans e3).cell c3;replace c4:=(e2.trans e3).cell c4;replace d0:=e3.cell d0;replace d1:=e3.cell d1;replace d2:=e3.cell d2;replace d3:=e3.cell d3;replace d4:=e3.cell d4;obtain⟨B,hB⟩:=nA w.heap.size;rw[hB]at c0 c1 c2 c3 c4 d0 d1 d2 d3 d4 b0 b1;obtain⟨ta,tc,rfl,-,t2,-⟩:=ht.open;obtain⟨sa,sc,rfl,-,s2,-⟩:=hs.open;obtain⟨x1,y1,rfl,-,z1,-⟩:=hc.g.open;obtain⟨x2,y2,rfl,-,z2,-⟩:=hd.g.open;obtain⟨x3,y3,rfl,-,z3,-⟩:=hc.m.open;obtain⟨x4,y4,rfl,-,z4,-⟩:=hd.m.open;unfold maxLen at t2 s2 z1 z2 z3 z4;obtain⟨HX,HC,HD,HT,HS⟩:=Of aX hc hd ht hs;clear hc hd ht hs e1 e2 e3 aW aV aX;unfold AT.arg;go_enter Tryz.func141,Tryz.ntmps141
 unfold AT.obj at c0 c1 c2 c3 c4 d0 d1 d2 d3 d4 b0 b1 HX;go_upto_region 1 with fail
 try simp only[hB]
 clear hB;generalize ((w.alloc (.cells #[c.p,c.m,.slice x3 c.ml.length y3,c.n,.slice x1 c.rows.length y1] 39)).alloc (.cells #[d.p,d.m,.slice x4 d.ml.length y4,d.n,.slice x2 d.rows.length y2] 39)).alloc (.cells #[.slice ta tl.length tc,.slice sa sl.length sc] 71)=w1 at *;have aA:=Aa (fun w' (h:Ex w1 w')=>(⟨h.cell c0,h.cell c1,h.cell c2,h.cell c3,h.cell c4,h.cell d0,h.cell d1,h.cell d2,h.cell d3,h.cell d4,h.cell b0,h.cell b1⟩:_/\_/\_/\_/\_/\_/\_/\_/\_/\_/\_/\_));have aL:=Aa (D7 w1 c.p c.m c.ml _ (HC.o.m.ex HX.o) c.n c.rows _ (HC.o.g.ex HX.o));go_wp2_with fail
 refine aL.o.mono ?_;rintro e w2⟨⟨e1,rfl,bA⟩,aQ⟩;clear c0 c1 c2 c3 c4 d0 d1 d2 d3 d4 b0 b1 aL;obtain⟨c0,c1,c2,c3,c4,d0,d1,d2,d3,d4,b0,b1⟩:=aA.o w2 aQ;have aJ:=Aa aQ;have aD:=Aa bA;clear aQ bA;by_cases h1:e1=0
 .have k1:(e1==0)=true:=by simpa using h1
  have HF:=Aa (EI (h1 ▸ aD.o));have aL:=Aa (D7 w2 d.p d.m d.ml _ (HD.o.m.ex (HX.o.trans aJ.o)) d.n d.rows _ (HD.o.g.ex (HX.o.trans aJ.o)));have H1:=Aa h1;subst h1;go_wp2_with fail
  refine aL.o.mono ?_;rintro e w3⟨⟨e2,rfl,aZ⟩,aP⟩;clear c0 c1 c2 c3 c4 d0 d1 d2 d3 d4 b0 b1 aL;obtain⟨c0,c1,c2,c3,c4,d0,d1,d2,d3,d4,b0,b1⟩:=aA.o w3 (aJ.o.trans aP);have aE:=Aa (aJ.o.trans aP);have aF:=Aa aZ;clear aP aZ aJ;by_cases h2:e2=0
  .have k2:(e2==0)=true:=by simpa using h2
   have aG:=Aa (Ve w3 c.p c.m c.ml _ (HC.o.m.ex (HX.o.trans aE.o)) d.p d.m d.ml _ (HD.o.m.ex (HX.o.trans aE.o)));obtain⟨Sm,aR⟩:∃b,CA c.p c.m c.ml d.p d.m d.ml=b:=⟨_,rfl⟩;rw[aR]at aG;have aN:=Aa aR;subst h2;clear aR
   cases Sm with
   | false=>
    have HE:=Aa (show Gd 0 0 (CA c.p c.m c.ml d.p d.m d.ml) c.n d.n tl sl (c.p.toNat^c.m.toNat)=10 from by
     unfold Gd;rw[if_neg ae,if_neg ae,if_pos (.inl aN.o)])
    exact zbe
   | true=>
    by_cases hn:c.n=d.n
    .have k3:(c.n !=d.n)=false:=by simp[hn]
     by_cases hl:tl.length=sl.length
     .have k4:((tl.length:Int) !=(sl.length:Int))=false:=by simp;omega
      have bG:(tl.length !=sl.length)=false:=aq;by_cases hg:c.n<tl.length
      .have k5:decide ((tl.length:Int) > c.n)=true:=by simpa using hg
       have bF:decide (c.n<(tl.length:Int))=true:=by simpa using hg
       have HE:=Aa (show Gd 0 0 (CA c.p c.m c.ml d.p d.m d.ml) c.n d.n tl sl (c.p.toNat^c.m.toNat)=3 from by
        unfold Gd;rw[if_neg ae,if_neg ae,if_neg (by rw[aN.o];simp[hn]),if_pos (.inr hg)])
       have bJ:=Aa hl;clear hn hl hg;exact zbe
      .have k5:decide ((tl.length:Int) > c.n)=false:=by simpa using hg
       have bF:decide (c.n<(tl.length:Int))=false:=by simpa using hg
       have HE:=Aa (show Gd 0 0 (CA c.p c.m c.ml d.p d.m d.ml) c.n d.n tl sl (c.p.toNat^c.m.toNat)=if FX tl c.n≠0 then FX tl c.n else EU (c.p.toNat^c.m.toNat) sl from by
        unfold Gd;rw[if_neg ae,if_neg ae,if_neg (by rw[aN.o];simp[hn]),if_neg ac])
       have aU:=Aa (fun w' (h:Ex w1 w')=>Hk w' tl _ c.n (HT.o.ex (HX.o.trans h)));obtain⟨I,hI⟩:=nA (FX tl c.n);rw[hI]at aU HE;have bJ:=Aa hl;clear hn hl hg hI;by_cases hi0:I=0
       .have k6:(I !=0)=false:=by simp[hi0]
        have bE:(I==0)=true:=by simp[hi0]
        have bH:=Aa (fun w' (h:Ex w1 w')=>F8 c.p c.m c.ml _ w' (HC.o.m.ex (HX.o.trans h)));have aH:=HE.o;rw[if_neg (by simp[hi0])]at aH;have HE:=Aa aH;subst hi0;clear aH;go_wp2_with (first|(go_at_call 191;refine aG.o.mono ?_;rintro e w4⟨rfl,aC⟩;have aB:=Aa (aE.o.trans aC);clear c0 c1 c2 c3 c4 d0 d1 d2 d3 d4 b0 b1;obtain⟨c0,c1,c2,c3,c4,d0,d1,d2,d3,d4,b0,b1⟩:=aA.o w4 aB.o;clear aC)|(go_at_call 150;refine(aU.o _ aB.o).mono ?_;rintro e w5⟨rfl,aK⟩;have aI:=Aa (aB.o.trans aK);clear c0 c1 c2 c3 c4 d0 d1 d2 d3 d4 b0 b1;obtain⟨c0,c1,c2,c3,c4,d0,d1,d2,d3,d4,b0,b1⟩:=aA.o w5 aI.o;clear aK))
        refine(bH.o _ aI.o).mono ?_;rintro e w6⟨ho,aY⟩;clear c0 c1 c2 c3 c4 d0 d1 d2 d3 d4 b0 b1;have aT:=Aa (aI.o.trans aY);obtain⟨c0,c1,c2,c3,c4,d0,d1,d2,d3,d4,b0,b1⟩:=aA.o w6 aT.o;clear aY;rcases ho with⟨pn,mn,x0,b,hp,hm,rfl,hgf,hx01,hx02⟩|⟨hnf,_⟩
        .have bD:=Aa (JV w6 hgf sl _ (HS.o.ex (HX.o.trans aT.o)));have HG:=Aa hgf;obtain⟨Fc,aS⟩:∃F,EU (pn^mn) sl=F:=⟨_,rfl⟩;rw[aS]at bD;have bC:=Aa (show c.p=pn/\c.m=mn from⟨hp,hm⟩);have HE:=Aa (show Gd 0 0 (CA c.p c.m c.ml d.p d.m d.ml) c.n d.n tl sl (c.p.toNat^c.m.toNat)=Fc from by
          rw[HE.o,hp,hm,<-aS];rfl)
         have bB:=Aa (show 1<=x0/\x0<pn^mn from⟨hx01,hx02⟩);clear hgf aS hp hm hx01 hx02;go_wp2_with fail
         refine bD.o.mono ?_;rintro e w7⟨rfl,aO⟩;clear c0 c1 c2 c3 c4 d0 d1 d2 d3 d4 b0 b1;have aM:=Aa (aT.o.trans aO);have bK:=Aa (HG.o.ex aO);obtain⟨c0,c1,c2,c3,c4,d0,d1,d2,d3,d4,b0,b1⟩:=aA.o w7 aM.o;clear aO;go_wp2_with fail
         go_ret2;by_cases hf0:Fc=0
         .subst hf0;refine⟨⟨0,0,aD.o,fun _=>aF.o,.inr ⟨HE.o,w7,w7.heap.size,b,x0,pn,mn,c.n.toNat,bC.o.1,bC.o.2,by have:=HF.o.2.1;omega,rfl,HX.o.trans aM.o,bK.o,bB.o.1,bB.o.2,Nat.le_refl _,AI w7 _,⟨ag,?_,ag,ag⟩,ag,ag⟩⟩,(HX.o.trans aM.o).alloc _⟩;have:((c.n.toNat:Nat):Int)=c.n:=by have:=HF.o.2.1;omega
          rw[this];simp
         .exact⟨Gq aD.o (fun _=>aF.o) HE.o hf0 _,(HX.o.trans aM.o).alloc _⟩
        .exact absurd HF.o.1 hnf
       .have k6:(I !=0)=true:=by simpa using hi0
        have bE:(I==0)=false:=by simpa using hi0
        have aH:=HE.o;rw[if_pos hi0]at aH;have HE:=Aa aH;have bI:=Aa hi0;clear aH hi0;go_wp2_with (first|(go_at_call 191;refine aG.o.mono ?_;rintro e w4⟨rfl,aC⟩;have aB:=Aa (aE.o.trans aC);clear c0 c1 c2 c3 c4 d0 d1 d2 d3 d4 b0 b1;obtain⟨c0,c1,c2,c3,c4,d0,d1,d2,d3,d4,b0,b1⟩:=aA.o w4 aB.o;clear aC)|(go_at_call 150;refine(aU.o _ aB.o).mono ?_;rintro e w5⟨rfl,aK⟩;have aI:=Aa (aB.o.trans aK);clear c0 c1 c2 c3 c4 d0 d1 d2 d3 d4 b0 b1;obtain⟨c0,c1,c2,c3,c4,d0,d1,d2,d3,d4,b0,b1⟩:=aA.o w5 aI.o;clear aK))
        go_ret2;exact⟨Gq aD.o (fun _=>aF.o) HE.o bI.o _,HX.o.trans aI.o⟩
     .have k4:((tl.length:Int) !=(sl.length:Int))=true:=by simp;omega
      have bG:(tl.length !=sl.length)=true:=aq;have HE:=Aa (show Gd 0 0 (CA c.p c.m c.ml d.p d.m d.ml) c.n d.n tl sl (c.p.toNat^c.m.toNat)=3 from by
       unfold Gd;rw[if_neg ae,if_neg ae,if_neg (by rw[aN.o];simp[hn]),if_pos (.inl hl)])
      clear hn hl;exact zbe
    .have k3:(c.n !=d.n)=true:=by simpa using hn
     have HE:=Aa (show Gd 0 0 (CA c.p c.m c.ml d.p d.m d.ml) c.n d.n tl sl (c.p.toNat^c.m.toNat)=10 from by
      unfold Gd;rw[if_neg ae,if_neg ae,if_pos (.inr hn)])
     clear hn;exact zbe
  .have k2:(e2==0)=false:=by simpa using h2
   have k2':(e2 !=0)=true:=du;have HE:=Aa (show Gd 0 e2 (CA c.p c.m c.ml d.p d.m d.ml) c.n d.n tl sl (c.p.toNat^c.m.toNat)=e2 from by
    unfold Gd;rw[if_neg ae,if_pos h2])
   have HI:=Aa h2;clear h2;go_wp2_with fail
   go_ret2;exact⟨Gq aD.o (fun _=>aF.o) HE.o HI.o _,HX.o.trans aE.o⟩
 .have k1:(e1==0)=false:=by simpa using h1
  have k1':(e1 !=0)=true:=br;have HE:=Aa (show Gd e1 0 (CA c.p c.m c.ml d.p d.m d.ml) c.n d.n tl sl (c.p.toNat^c.m.toNat)=e1 from by
   unfold Gd;rw[if_pos h1])
  have HI:=Aa h1;clear h1;go_wp2_with fail
  go_ret2;exact⟨Gq aD.o (fun h=>absurd h HI.o) HE.o HI.o _,HX.o.trans aJ.o⟩
structure So(w2:World)(A b n:Nat)(v1 v2:Value)(s:Nat × List Nd)(w:World):Prop where
 ex:Ex w2 w
 pr:Mv w A b n v1 v2
 c11:w.cell? (A,11)=some (.int .i64 s.1)
 f11:w.frozen? (A,11)=false
 l1:s.2.length<=s.1
 l2:s.1<=65536
 lb:w2.heap.size<=A
section
variable {w2 w w':World} {A b n:Nat} {v1 v2:Value} {s:Nat × List Nd}
theorem So.later(h:So w2 A b n v1 v2 s w)(hx:Ex w w'):So w2 A b n v1 v2 s w':=
 ⟨h.ex.trans hx,h.pr.ex hx,hx.cell h.c11,hx.frz h.c11 h.f11,h.l1,h.l2,h.lb⟩
theorem So.seen(h:So w2 A b n v1 v2 s w)(hs:s.1<65536):So w2 A b n v1 v2 (s.1+1,s.2) (w.setCell (A,11) (.int .i64 ((s.1:Int)+1))):=
 ⟨h.ex.setCell (p:=⟨A,11,none⟩) h.lb _,⟨by rw[Ag ae];exact h.pr.c0,by rw[Ag ae];exact h.pr.c4,by rw[Ag ae];exact h.pr.c5,by rw[Ag ae];exact h.pr.c10⟩,by
  rw[World.cell?_setCell_same _ _ _ h.c11];simp,by rw[Ax];exact h.f11,by have:=h.l1;show s.2.length<=s.1+1;omega,by show s.1+1<=65536;omega,h.lb⟩
theorem So.other(h:So w2 A b n v1 v2 s w){B j:Nat}(hB:B≠A)(hb:w2.heap.size<=B)(u:Value):So w2 A b n v1 v2 s (w.setCell (B,j) u):=
 ⟨h.ex.setCell (p:=⟨B,j,none⟩) hb _,⟨by rw[Ah hB];exact h.pr.c0,by rw[Ah hB];exact h.pr.c4,by rw[Ah hB];exact h.pr.c5,by rw[Ah hB];exact h.pr.c10⟩,by rw[Ah hB];exact h.c11,by rw[Ax];exact h.f11,h.l1,h.l2,h.lb⟩
theorem So.note(h:So w2 A b n v1 v2 s w)(hl:s.2.length<s.1)(x:Nd):So w2 A b n v1 v2 (s.1,s.2 ++ [x]) w:=
 ⟨h.ex,h.pr,h.c11,h.f11,by rw[List.length_append];show s.2.length+1<=s.1;omega,h.l2,h.lb⟩
end
theorem Fz{DM:World->Nat->Prop}{w:World}{B j:Nat}{u:Value}(h:DM w B)(hi:∀X,DM (w.setCell (B,j) u) X->DM w X):AO DM w (w.setCell (B,j) u):=
 ⟨ag,fun X hX hn=>⟨Below.heap_setCell w ⟨B,j,none⟩ u X (fun e=>hn (by rw[e];exact h)),fun hd=>hn (hi X hd)⟩⟩
def Sy(A NB:Nat):World->Nat->Prop:=fun _ X=>X=A∨X=NB
def Cq(L:List Nd):Nd:=L.getLast?.getD ⟨[], [],0, []⟩
theorem Fx(L:List Nd)(x:Nd):Cq (L ++ [x])=x:=by unfold Cq;simp
structure Sw(w2:World)(A NB b n:Nat)(v1 v2:Value)(s:Nat × List Nd)(w:World):Prop where
 sw:So w2 A b n v1 v2 s w
 ne:NB≠A
 lb:w2.heap.size<=NB
 nb:∃tv sv,w.cell? (NB,0)=some tv/\w.cell? (NB,1)=some sv/\C6 (Sy A NB) w tv (Cq s.2).tl/\C6 (Sy A NB) w sv (Cq s.2).sc
 f0:w.frozen? (NB,0)=false
 f1:w.frozen? (NB,1)=false
 ll:(Cq s.2).tl.length<=64/\(Cq s.2).sc.length<=64
section
variable {w2 w w':World} {A NB b n:Nat} {v1 v2:Value} {s:Nat × List Nd}
theorem Sw.stt:Vg (Sw w2 A NB b n v1 v2) (Sy A NB) where
 ex:=fun s w w' h hx=>by
  obtain⟨tv,sv,h1,h2,h3,h4⟩:=h.nb;have hk:AO (Sy A NB) w w':=⟨hx.size,fun B hB hn=>⟨hx.block B hB,hn⟩⟩;exact⟨h.sw.later hx,h.ne,h.lb,⟨tv,sv,hx.cell h1,hx.cell h2,h3.keep hk,h4.keep hk⟩,hx.frz h1 h.f0,hx.frz h2 h.f1,h.ll⟩
 lt:=fun s w B h hd=>by
  rcases hd with rfl|rfl
  .exact World.block_lt_of_cell? _ _ h.sw.c11
  .obtain⟨tv,sv,h1,-⟩:=h.nb;exact World.block_lt_of_cell? _ _ h1
 dx:=fun s w w' B h hx hd=>hd
theorem Sw.seen(h:Sw w2 A NB b n v1 v2 s w)(hs:s.1<65536):Sw w2 A NB b n v1 v2 (s.1+1,s.2) (w.setCell (A,11) (.int .i64 ((s.1:Int)+1)))/\AO (Sy A NB) w (w.setCell (A,11) (.int .i64 ((s.1:Int)+1))):=by
 have hk:AO (Sy A NB) w (w.setCell (A,11) (.int .i64 ((s.1:Int)+1))):=Fz (.inl rfl) fun X h=>h;obtain⟨tv,sv,h1,h2,h3,h4⟩:=h.nb;exact⟨⟨h.sw.seen hs,h.ne,h.lb,⟨tv,sv,by rw[Ah (fun e=>h.ne e.symm)];exact h1,by rw[Ah (fun e=>h.ne e.symm)];exact h2,h3.keep hk,h4.keep hk⟩,by rw[Ax];exact h.f0,by rw[Ax];exact h.f1,h.ll⟩,hk⟩
theorem Sw.set(h:Sw w2 A NB b n v1 v2 s w)(hl:s.2.length<s.1){tl sl msg:List Int}{side:Int}{tv sv:Value}(ht:C6 (Sy A NB) w tv tl)(hs:C6 (Sy A NB) w sv sl)(aA:tl.length<=64)(aB:sl.length=tl.length):
  Sw w2 A NB b n v1 v2 (s.1,s.2 ++ [⟨tl,sl,side,msg⟩]) ((w.setCell (NB,0) tv).setCell (NB,1) sv)/\AO (Sy A NB) w ((w.setCell (NB,0) tv).setCell (NB,1) sv):=by
 have hk:AO (Sy A NB) w ((w.setCell (NB,0) tv).setCell (NB,1) sv):=(Fz (.inr rfl) fun X h=>h).trans (Fz (.inr rfl) fun X h=>h);obtain⟨tv',sv',h1,h2,h3,h4⟩:=h.nb;refine⟨⟨((h.sw.other h.ne h.lb tv).other h.ne h.lb sv).note hl _,h.ne,h.lb,⟨tv,sv,?_,?_,?_,?_⟩,by rw[Ax,Ax];exact h.f0,by rw[Ax,Ax];exact h.f1,by show(Cq (s.2 ++ [_])).tl.length<=64/\_;rw[Fx];exact⟨aA,by rw[aB];exact aA⟩⟩,hk⟩
 .rw[Ag ae];exact World.cell?_setCell_same _ _ _ h1
 .exact World.cell?_setCell_same _ _ _ (by rw[Ag ae];exact h2)
 .show C6 _ _ tv (Cq (s.2 ++ [_])).tl
  rw[Fx];exact ht.keep hk
 .show C6 _ _ sv (Cq (s.2 ++ [_])).sc
  rw[Fx];exact hs.keep hk
theorem W9(h:Sw w2 A NB b n v1 v2 s w)(hl:s.2.length<s.1){tl sl msg:List Int}{side:Int}{tv sv mv:Value}(ht:C6 (Sy A NB) w tv tl)(hs:C6 (Sy A NB) w sv sl)(aD:tl.length<=64)(aB:sl.length=tl.length):
  Calls Tryz.prog 172 #[.agg #[tv,sv],side,mv,.pointer (some (NB,0))] w fun r w'=>(∃t,r= .returned t)/\Sw w2 A NB b n v1 v2 (s.1,s.2 ++ [⟨tl,sl,side,msg⟩]) w'/\AO (Sy A NB) w w':=by
 obtain⟨b0,b1,e1,-⟩:=AX w tv sv;have h1:=Sw.stt.ex _ _ _ h e1;have aA:=Sw.stt.keeps h e1;obtain⟨h2,aC⟩:=h1.set hl (side:=side) (msg:=msg) (ht.keep aA) (hs.keep aA) aD aB;obtain⟨tv',sv',c0,c1,-,-⟩:=h1.nb;have f0:=h1.f0;have f1:=h1.f1;obtain⟨ta,tc,rfl,-,-,-⟩:=ht.1.open;obtain⟨sa,sc,rfl,-,-,-⟩:=hs.1.open;have H2:=Aa h2;have HK:=Aa (aA.trans aC);clear h ht hs h1 aA h2 aC e1 aB;go_enter Tryz.func172,Tryz.ntmps172
 go_wp2_with fail
 go_end0
 exact⟨⟨_,rfl⟩,H2.o,HK.o⟩
end
theorem ZO{w2:World}{p m n A NB b x0:Nat}{ml:List Int}{l1 l2:List (List Int)}{v1 v2:Value}(hg:Bh w2 b p m ml x0)(x1:1<=x0)(x2:x0<p^m)(h1:BZ w2 v1 l1)(h2:BZ w2 v2 l2)(hn:n<=64)(r1:∀r∈l1,r.length=n)(r2:∀r∈l2,r.length=n)(k1:l1.length<=256)(k2:l2.length<=256):
  SrE p m ml l1 l2 n A b x0 v1 v2 (Sw w2 A NB b n v1 v2) (Sy A NB) where
 stt:=Sw.stt
 pr:=fun s w h=>h.sw.pr
 gf:=fun s w h=>hg.ex h.sw.ex
 m1:=fun s w h=>h1.ex h.sw.ex
 m2:=fun s w h=>h2.ex h.sw.ex
 c11:=fun s w h=>⟨h.sw.c11,h.sw.f11⟩
 le:=fun s w h=>⟨h.sw.l1,h.sw.l2⟩
 seen:=fun s w h hs=>h.seen hs
 x1:=x1
 x2:=x2
 n64:=hn
 r1:=r1
 r2:=r2
 k1:=k1
 k2:=k2
theorem Ds{p m:Int}{ml:List Int}{n:Int}{rows:List (List Int)}(h:BI p m ml n rows 0):rows.length<=256/\∀r∈rows,(r.length:Int)=n:=by
 rcases h with⟨_,h⟩|⟨_,h1,h2⟩|⟨h1,h2,h3⟩
 .cases h
 .exact absurd h2.symm h1
 .rcases h3 with⟨h3,h4⟩|⟨_,pn,mn,N,piv,a',_,_,e,_,hm,_⟩
  .exact absurd h4.symm h3
  .obtain⟨_,_,s3,s4⟩:=EF hm;exact⟨s3,fun r hr=>by rw[e];exact(s4 r hr).1⟩
theorem Rd{e1 e2:Int}{aA:Bool}{n n':Int}{tl sl:List Int}{q:Nat}(h:Gd e1 e2 aA n n' tl sl q=0):e1=0/\e2=0/\aA=true/\n=n'/\tl.length=sl.length/\(tl.length:Int)<=n/\BB tl n=true/\EH tl=false/\EU q sl=0:=by
 unfold Gd at h;split at h
 .rename_i h1;exact absurd h h1
 rename_i h1;split at h
 .rename_i h2;exact absurd h h2
 rename_i h2;split at h
 .cases h
 rename_i h3;split at h
 .cases h
 rename_i h4;split at h
 .rename_i h5;exact absurd h h5
 rename_i h5;have hi:FX tl n=0:=ac;unfold FX at hi;split at hi
 .cases hi
 rename_i h6;split at hi
 .cases hi
 rename_i h7;refine⟨ac,ac,?_,?_,ac,ac,by cases hr:BB tl n <;> simp_all,by cases hr:EH tl <;> simp_all,h⟩
 .cases hs:aA with
  | true=>rfl
  | false=>exact absurd (.inl hs) h3
 .by_cases e:n=n'
  .exact e
  .exact absurd (.inr e) h3
def GN(c d:AT)(tl sl:List Int):(Nat × List Nd) × Int:=Mj c.p.toNat c.m.toNat c.ml c.rows d.rows c.n.toNat (c.n.toNat-tl.length) (0, []) tl sl
def J5(E:Int)(R:(Nat × List Nd) × Int):Int:=if E≠0 then E else if R.2=18 then 0 else if R.2=0 then 11 else R.2
def Jq(E:Int)(R:(Nat × List Nd) × Int):CW:=if E≠0 then⟨[], [],0⟩ else if R.2=18 then⟨(Cq R.1.2).tl,(Cq R.1.2).sc,0⟩ else⟨[], [],0⟩
def MoF(b:Nat)(M:CW)(e:Int)(r:Ending)(w':World):Prop:=∃u v,r= .returned (.tuple #[.agg #[u,v,M.frob],e])/\Al w' u M.perm/\Al w' v M.scale/\(∀X,u.ownBlock=some X->b<=X)/\∀X,v.ownBlock=some X->b<=X
theorem zcS{P:Prop}(h:P:=by
 exact⟨_,_,rfl,A7 _,A7 _,fun X h=>(by cases h),fun X h=>by cases h⟩):P:=h
theorem zb8{P:Prop}(h:P:=by
 rw[aB.o.1,aB.o.2];exact zcS):P:=h
theorem bj{P:Prop}(h:P:=by simp[results,Tryz.results122,go_sem,q0,q1,q2]):P:=h
theorem Vb(w:World)(c d:AT)(m1 m2 v1 v2:Value)(hc:c.at w m1 v1)(hd:d.at w m2 v2)(tl sl:List Int)(tv sv:Value)(ht:Al w tv tl)(hs:Al w sv sl):
  Calls Tryz.prog 122 #[c.arg m1 v1,d.arg m2 v2,.agg #[tv,sv]] w fun r w'=>(∃e1 e2:Int,BI c.p c.m c.ml c.n c.rows e1/\(e1=0->BI d.p d.m d.ml d.n d.rows e2)/\MoF w.heap.size (Jq (Gd e1 e2 (CA c.p c.m c.ml d.p d.m d.ml) c.n d.n tl sl (c.p.toNat^c.m.toNat)) (GN c d tl sl)) (J5 (Gd e1 e2 (CA c.p c.m c.ml d.p d.m d.ml) c.n d.n tl sl (c.p.toNat^c.m.toNat)) (GN c d tl sl)) r w')/\Ex w w':=by
 obtain⟨c0,c1,c2,c3,c4⟩:=CY w c m1 v1;obtain⟨d0,d1,d2,d3,d4⟩:=CY (w.alloc (c.obj m1 v1)) d m2 v2;obtain⟨b0,b1,e3,bT⟩:=AX ((w.alloc (c.obj m1 v1)).alloc (d.obj m2 v2)) tv sv;have aQ:=BxM.new (((w.alloc (c.obj m1 v1)).alloc (d.obj m2 v2)).alloc (.cells #[tv,sv] 71));have bU:(w.alloc (c.obj m1 v1)).heap.size=w.heap.size+1:=ag;have bA:((w.alloc (c.obj m1 v1)).alloc (d.obj m2 v2)).heap.size=w.heap.size+1+1:=ag;have e1:=AI w (c.obj m1 v1);have e2:=AI (w.alloc (c.obj m1 v1)) (d.obj m2 v2);have e4:=AI (((w.alloc (c.obj m1 v1)).alloc (d.obj m2 v2)).alloc (.cells #[tv,sv] 71)) (.cells #[.slice none 0 0,.slice none 0 0,(0:Int)] 26);rw[bT,bA]at aQ;rw[bU]at d0 d1 d2 d3 d4;rw[bA]at b0 b1;have aF:=e1.trans (e2.trans (e3.trans e4));replace c0:=(e2.trans (e3.trans e4)).cell c0;replace c1:=(e2.trans (e3.trans e4)).cell c1;replace c2:=(e2.trans (e3.trans e4)).cell c2;replace c3:=(e2.trans (e3.trans e4)).cell c3;replace c4:=(e2.trans (e3.trans e4)).cell c4;replace d0:=(e3.trans e4).cell d0;replace d1:=(e3.trans e4).cell d1;replace d2:=(e3.trans e4).cell d2;replace d3:=(e3.trans e4).cell d3;replace d4:=(e3.trans e4).cell d4;replace b0:=e4.cell b0;replace b1:=e4.cell b1;obtain⟨B,hB⟩:=nA w.heap.size;rw[hB]at c0 c1 c2 c3 c4 d0 d1 d2 d3 d4 b0 b1 aQ;have aS:=Aa (I3 _ c d m1 m2 v1 v2 (hc.ex aF) (hd.ex aF) tl sl tv sv (ht.ex aF) (hs.ex aF));obtain⟨ta,tc,rfl,-,t2,-⟩:=ht.open;obtain⟨sa,sc,rfl,-,s2,-⟩:=hs.open;obtain⟨x1,y1,rfl,-,z1,-⟩:=hc.g.open;obtain⟨x2,y2,rfl,-,z2,-⟩:=hd.g.open;obtain⟨x3,y3,rfl,-,z3,-⟩:=hc.m.open;obtain⟨x4,y4,rfl,-,z4,-⟩:=hd.m.open;unfold maxLen at t2 s2 z1 z2 z3 z4;obtain⟨HX,HC,HD,HT,HS,aU,aR⟩:=OK aF hc hd ht hs aQ hB;clear hc hd ht hs e1 e2 e3 e4 bU bA bT aF aQ;unfold AT.arg at aS ⊢;go_enter Tryz.func122,Tryz.ntmps122
 unfold AT.obj at c0 c1 c2 c3 c4 d0 d1 d2 d3 d4 b0 b1 HX aU aS;go_upto_region 1 with fail
 try simp only[hB]
 clear hB;generalize (((w.alloc (.cells #[c.p,c.m,.slice x3 c.ml.length y3,c.n,.slice x1 c.rows.length y1] 39)).alloc (.cells #[d.p,d.m,.slice x4 d.ml.length y4,d.n,.slice x2 d.rows.length y2] 39)).alloc (.cells #[.slice ta tl.length tc,.slice sa sl.length sc] 71)).alloc (.cells #[.slice none 0 0,.slice none 0 0,(0:Int)] 26)=w1 at *;have B0:=Aa b0;have B1:=Aa b1;go_wp2_with fail
 refine aS.o.mono ?_;rintro e w3⟨ho,bW⟩;have cE:=Aa bW;obtain⟨e1,e2,bZ,aK,ho⟩:=ho;have aI:=Aa bZ;have aN:=Aa aK;clear c0 c1 c2 c3 c4 d0 d1 d2 d3 d4 bW bZ aK aS b0 b1;obtain⟨E,hE⟩:=nA (Gd e1 e2 (CA c.p c.m c.ml d.p d.m d.ml) c.n d.n tl sl (c.p.toNat^c.m.toNat));rw[hE]at ho;have HE:=Aa hE;rcases ho with⟨h0,ptr,rfl⟩|⟨h0,w2,A,b,x0,pn,mn,nn,hp,hm,hnn,rfl,hx2,hg,hx01,hx02,hA,hx23,hpr,h11,hf11⟩
 .have hb0:(E !=0)=true:=by simpa using h0
  obtain⟨q0,q1,q2,aZ,aY,aX⟩:=aU.o.ex cE.o;have H0:=Aa h0;clear h0 hE;go_wp2_with fail
  refine bodyPost_ret (v:= .tuple #[.agg #[.slice none 0 0,.slice none 0 0,(0:Int)],E]) bj rfl ⟨⟨e1,e2,aI.o,aN.o,?_⟩,Cj (HX.o.trans cE.o) (by rw[aR.o];omega) _ _ _⟩;rw[HE.o];unfold Jq J5;rw[if_pos H0.o,if_pos H0.o];exact zcS
 .subst h0;obtain⟨k1,k2,k3,k4,k5,k6,k7,k8,k9⟩:=Rd hE;subst k1;have aK:=aN.o rfl;subst k2;obtain⟨bS,bQ⟩:=Ds aI.o;obtain⟨bR,bP⟩:=Ds aK;obtain⟨-,cQ,cP⟩:=EI aI.o;obtain⟨NB,aG⟩:∃B,w3.heap.size=B:=⟨_,rfl⟩;have bG:A<NB:=by rw[<-aG];exact World.block_lt_of_cell? _ _ h11
  have aA:=HX.o.trans hx2;have e5:=AI w3 (.cells #[.slice none 0 0,.slice none 0 0] 71);obtain⟨n0,n1,-,-⟩:=AX w3 (.slice none 0 0) (.slice none 0 0);have bO:(w3.alloc (.cells #[.slice none 0 0,.slice none 0 0] 71)).frozen? (NB,0)=false:=by rw[<-aG];simp
  have bN:(w3.alloc (.cells #[.slice none 0 0,.slice none 0 0] 71)).frozen? (NB,1)=false:=by rw[<-aG];simp
  rw[aG]at n0 n1;have aP:=Aa (ZO (p:=pn) (m:=mn) (n:=nn) (A:=A) (NB:=NB) hg hx01 hx02 (HC.o.g.ex aA) (HD.o.g.ex aA) ac (fun r hr=>by have:=bQ r hr;omega) (fun r hr=>by have:=bP r hr;omega) bS bR);have aC:Sw w2 A NB b nn (.slice x1 c.rows.length y1) (.slice x2 d.rows.length y2) (0, []) (w3.alloc (.cells #[.slice none 0 0,.slice none 0 0] 71)):=
   ⟨⟨hx23.trans e5,hpr.ex e5,e5.cell h11,e5.frz h11 hf11,ag,ag,hA⟩,ac,ac,⟨_,_,n0,n1,⟨A7 _,fun h=>absurd rfl h⟩,⟨A7 _,fun h=>absurd rfl h⟩⟩,bO,bN,ae⟩
  have cZ:=Aa aC;have aJ:w1.heap.size<=w2.heap.size:=hx2.size;have bI:=Aa aJ;have aD:∀(v:Value) (l:List Int),Al w v l->C6 (Sy A NB) (w3.alloc (.cells #[.slice none 0 0,.slice none 0 0] 71)) v l:=fun v l h=>by
   have h2:=h.ex aA;have hk:AO (fun _ X=>w2.heap.size<=X) w2 (w3.alloc (.cells #[.slice none 0 0,.slice none 0 0] 71)):=⟨(hx23.trans e5).size,fun X hX hn=>⟨(hx23.trans e5).block X hX,hn⟩⟩;refine⟨(h.ex aA).ex (hx23.trans e5),fun hl X hX hd=>?_⟩;obtain⟨a,cap,rfl,-,-,h5⟩:=h2.open;obtain⟨b',o,rfl,h6⟩:=h5 (List.length_pos_iff.2 hl);injection hX with hX;have hX:b'=X:=hX;subst hX;obtain⟨x,l',rfl⟩:=List.exists_cons_of_ne_nil hl;have hlt:b'<w2.heap.size:=World.block_lt_of_cell? _ _ (h6 0 x rfl);rcases hd with hd|hd <;> omega
  have aT:=Aa (Rk aP.o (.pointer (some ⟨NB,0,none⟩)) (fun s w' tl' sl' tv' sv' side msg mv h hl cR cS hm' bE cV hml hne=>W9 h hl cR cS cV bE) (nn-tl.length) (0, []) _ tl sl _ _ ac ac (by rw[<-hnn];exact k7) (fun h=>absurd rfl h) aC (aD _ _ HT.o) (aD _ _ HS.o));have hR:Mj pn mn c.ml c.rows d.rows nn (nn-tl.length) (0, []) tl sl=GN c d tl sl:=by
   unfold GN;rw[hp,hm,hnn];rfl
  rw[hR]at aT;have q:=aU.o.ex (hx2.trans (hx23.trans e5));have bM:=Aa (aU.o.ex hx2);have b0:=(hx2.trans (hx23.trans e5)).cell B0.o;have b1:=(hx2.trans (hx23.trans e5)).cell B1.o;have bH:=Aa aA;have cG:=Aa (show B+1+1+1<w2.heap.size from World.block_lt_of_cell? _ _ bM.o.c0);clear hp hm hnn hx2 hg hx01 hx02 hA hx23 hpr h11 hf11 k3 k4 k5 k6 k7 k8 k9 aK bS bQ bR bP cQ cP bG aA e5 n0 n1 bO bN aC aJ aD hR aP q hE;obtain⟨R,hR⟩:=nA (GN c d tl sl);rw[hR]at aT;have dA:=Aa hR;clear hR;go_wp2_with fail
  try simp only[aG]
  generalize w3.alloc (.cells #[.slice none 0 0,.slice none 0 0] 71)=w4 at *;clear aG;refine aT.o.mono ?_;rintro e w5⟨rfl,bF,cU⟩;have bJ:=Aa bF;have aE:=Aa bF.sw.ex;obtain⟨q0,q1,q2,aZ,aY,aX⟩:=bM.o.ex aE.o;have bK:=Aa (show ∀r w',MoF w.heap.size (Jq 0 R) (J5 0 R) r w'->MoF w.heap.size (Jq (Gd 0 0 (CA c.p c.m c.ml d.p d.m d.ml) c.n d.n tl sl (c.p.toNat^c.m.toNat)) (GN c d tl sl)) (J5 (Gd 0 0 (CA c.p c.m c.ml d.p d.m d.ml) c.n d.n tl sl (c.p.toNat^c.m.toNat)) (GN c d tl sl)) r w' from fun r w' h=>by rw[HE.o,dA.o];exact h);clear bF cU b0 b1 aT cZ;obtain⟨E2,aL⟩:∃E,R.2=E:=⟨_,rfl⟩;have bL:=Aa aL;simp only[aL];by_cases h18:E2=18
  .subst h18;obtain⟨aV,aW,n0,n1,bY,bX⟩:=bJ.o.nb;have cT:=bJ.o.ll;obtain⟨cI,cH,aO,HQ⟩:=Eq (fun (w':World) (h:Ex w5 w')=>Gc w' _ aV (bY.1.ex h) ac) (fun (w':World) (h:Ex w5 w')=>Gc w' _ aW (bX.1.ex h) ac) (show ∀w',Ex w5 w'->w'.cell? (NB,0)=some aV/\w'.cell? (NB,1)=some aW from fun w' h=>⟨h.cell n0,h.cell n1⟩) (show ∀w',Ex w5 w'->BxM w' (B+1+1+1) from fun w' h=>bM.o.ex (aE.o.trans h));have aB:=Aa (show Jq 0 R=⟨(Cq R.1.2).tl,(Cq R.1.2).sc,0⟩/\J5 0 R=0 from by
    unfold Jq J5;rw[bL.o];exact⟨rfl,rfl⟩)
   obtain⟨Lt,cC⟩:∃l,(Cq R.1.2).tl=l:=⟨_,rfl⟩;obtain⟨Ls,cD⟩:∃l,(Cq R.1.2).sc=l:=⟨_,rfl⟩;rw[cC]at cI aB;rw[cD]at cH aB;clear aL bY bX cT cC cD q0 q1 q2 aZ aY aX;go_wp2_with fail
   have G0:Ex w5 w5.drew:=(Ex.refl w5).drew;have aH:=Aa (show B+1+1+1≠NB from by have:=bJ.o.lb;have:=cG.o;omega)
   go_region_held3 (fun w'=>w'.cell? (NB,0)=some aV/\w'.cell? (NB,1)=some aW)
    (first|with_reducible exact aO.o _ G0|with_reducible exact aO.o _ X6.o|with_reducible exact aO.o _ X7.o|exact⟨by rw[Ah aH.o,Ah aH.o,Ah aH.o];exact(aO.o _ X7.o).1,by rw[Ah aH.o,Ah aH.o,Ah aH.o];exact(aO.o _ X7.o).2⟩)
    (first|(go_at_call 154;(with_reducible refine(cI.o _ G0).mono ?_);rintro e w6⟨u6,rfl,bD,cB,bV⟩;have cY:=Aa bD;have cK:=Aa cB;obtain⟨cO,cM,rfl,-,-,-⟩:=bD.open;have X6:=Aa (G0.trans bV);clear bV bD cB)|(go_at_call 154;(with_reducible refine(cH.o _ X6.o).mono ?_);rintro e w7⟨u7,rfl,bC,cA,bB⟩;have cX:=Aa bC;have cJ:=Aa cA;obtain⟨cN,cL,rfl,-,-,-⟩:=bC.open;have cW:=Aa bB;have X7:=Aa (X6.o.trans bB);obtain⟨q0,q1,q2,aZ,aY,aX⟩:=HQ.o _ X7.o;clear bB bC cA))
   have cF:=Aa (show B+1+1+1<w5.heap.size from by have:=aE.o.size;have:=cG.o;omega);have aM:=Aa X6.o.size;go_wp2_with fail
   refine bodyPost_ret (v:= .tuple #[.agg #[.slice cO Lt.length cM,.slice cN Ls.length cL,(0:Int)],(0:Int)]) bj rfl ⟨⟨0,0,aI.o,fun _=>aN.o trivial,bK.o _ _ ?_⟩,Cj ((bH.o.trans aE.o).trans X7.o) (by rw[aR.o];omega) _ _ _⟩;rw[aB.o.1,aB.o.2];have hw5:w.heap.size<=w5.heap.size:=Nat.le_trans (HX.o.trans (Ex.refl _)).size (Nat.le_trans bI.o aE.o.size);refine⟨_,_,rfl,Fo (cY.o.ex cW.o) (fun X hX e=>?_) _ _ _,Fo cX.o (fun X hX e=>?_) _ _ _,fun X hX=>?_,fun X hX=>?_⟩
   .have:=cK.o X hX;have h1:w5.drew.heap.size=w5.heap.size:=rfl;have:=cF.o;omega
   .have:=cJ.o X hX;have:=cF.o;have:=aM.o;omega
   .have:=cK.o X hX;have h1:w5.drew.heap.size=w5.heap.size:=rfl;omega
   .have:=cJ.o X hX;have h1:w5.drew.heap.size=w5.heap.size:=rfl;have:=aM.o;omega
  .have k18:(E2==18)=false:=by simpa using h18
   by_cases h0:E2=0
   .subst h0;have aB:=Aa (show Jq 0 R=⟨[], [],0⟩/\J5 0 R=11 from by
     unfold Jq J5;rw[bL.o];exact⟨rfl,rfl⟩)
    clear aL h18;go_wp2_with fail
    refine bodyPost_ret (v:= .tuple #[.agg #[.slice none 0 0,.slice none 0 0,(0:Int)],(11:Int)]) bj rfl ⟨⟨0,0,aI.o,fun _=>aN.o trivial,bK.o _ _ ?_⟩,Cj (bH.o.trans aE.o) (by rw[aR.o];omega) _ _ _⟩;exact zb8
   .have k0:(E2==0)=false:=by simpa using h0
    have aB:=Aa (show Jq 0 R=⟨[], [],0⟩/\J5 0 R=E2 from by
     unfold Jq J5;rw[bL.o];simp[h18,h0])
    clear aL h18 h0;go_wp2_with fail
    refine bodyPost_ret (v:= .tuple #[.agg #[.slice none 0 0,.slice none 0 0,(0:Int)],E2]) bj rfl ⟨⟨0,0,aI.o,fun _=>aN.o trivial,bK.o _ _ ?_⟩,Cj (bH.o.trans aE.o) (by rw[aR.o];omega) _ _ _⟩;exact zb8
end Go.Proofs.YtehieobniamagaaGreat
