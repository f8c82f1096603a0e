/- Walk of the pair's search, for both notes (printed by gen_sea.py). -/
import Derived.Test.YtehieobniamagaaGreatZa18
namespace Go.Proofs.YtehieobniamagaaGreat
set_option linter.all false
set_option maxRecDepth 100000
set_option maxHeartbeats 8000000
open Go.RowKit
theorem Ib(w:World)(SB aA A:Nat)(nv tv sv:Value)(z:Int)(R:World->Prop)(c0:w.cell? ⟨SB,0,none⟩=some (.pointer (some ⟨A,0,none⟩)))(c1:w.cell? ⟨aA,0,none⟩=some nv)
  (HC:∀w',Ex w w'->Calls Tryz.prog 142 #[.pointer (some ⟨A,0,none⟩),.agg #[tv,sv],nv] w' fun r w''=>r= .returned (.int .i64 z)/\R w''):
  Calls Tryz.prog 193 #[.agg #[tv,sv],.pointer (some ⟨SB,0,none⟩),.pointer (some ⟨aA,0,none⟩)] w fun r w''=>r= .returned (.int .i64 z)/\R w'':=by
 obtain⟨b0,b1,eb,aB⟩:=AH w tv sv;have c0:=eb.cell c0;have c1:=eb.cell c1;have HX:=Aa (HC _ eb);obtain⟨B,hB⟩:=nA w.heap.size;rw[hB]at b0 b1;clear HC eb aB;go_enter Tryz.func193,Tryz.ntmps193
 go_wp2_with fail
 refine HX.o.mono ?_;rintro e w6⟨rfl,hr⟩;have HR:=Aa hr;clear hr;go_wp2_with fail
 go_ret;exact⟨rfl,HR.o⟩
def Ux{σ:Type}(St:σ->World->Prop)(DM:World->Nat->Prop)(SB aA A:Nat)(nv:Value)(s:σ)(w:World):Prop:=
 St s w/\w.cell? ⟨SB,0,none⟩=some (.pointer (some ⟨A,0,none⟩))/\w.cell? ⟨aA,0,none⟩=some nv/\¬DM w SB/\¬DM w aA
theorem Ux.stt{σ:Type}{St:σ->World->Prop}{DM:World->Nat->Prop}(H:Se St DM)(SB NTB A:Nat)(nv:Value):Se (Ux St DM SB NTB A nv) DM where
 ex:=fun s w w' h hx=>⟨H.ex _ _ _ h.1 hx,hx.cell h.2.1,hx.cell h.2.2.1,fun hd=>h.2.2.2.1 (H.dx _ _ _ _ h.1 hx hd),fun hd=>h.2.2.2.2 (H.dx _ _ _ _ h.1 hx hd)⟩
 lt:=fun s w B h hd=>H.lt s w B h.1 hd
 dx:=fun s w w' B h hx hd=>H.dx s w w' B h.1 hx hd
theorem Ux.keep{σ:Type}{St:σ->World->Prop}{DM:World->Nat->Prop}{SB aA A:Nat}{nv:Value}{s s':σ}{w w':World}(h:Ux St DM SB aA A nv s w)(hs:St s' w')(k:AC DM w w'):Ux St DM SB aA A nv s' w':=
 ⟨hs,k.cell h.2.2.2.1 h.2.1,k.cell h.2.2.2.2 h.2.2.1,(k.blk SB (World.block_lt_of_cell? _ _ h.2.1) h.2.2.2.1).2,(k.blk aA (World.block_lt_of_cell? _ _ h.2.2.1) h.2.2.2.2).2⟩
theorem Ha{l:List Int}{n:Nat}{j:Nat}(h:Bz l n=true)(hj:j<n):Bz (l ++ [(j:Int)]) n=true:=by
 unfold Bz at *;rw[List.all_append,h];simp;omega
structure Ys(p m:Nat)(ml:List Int)(l1 l2:List (List Int))(n A b x0:Nat)(v1 v2:Value)(St:Nat × List Nd->World->Prop)(DM:World->Nat->Prop):Prop where
 stt:Se St DM
 pr:∀s w,St s w->Kh w A b n v1 v2
 gf:∀s w,St s w->AP w b p m ml x0
 m1:∀s w,St s w->BT w v1 l1
 m2:∀s w,St s w->BT w v2 l2
 c11:∀s w,St s w->w.cell? ⟨A,11,none⟩=some (.int .i64 s.1)/\w.frozen? ⟨A,11,none⟩=false
 le:∀s w,St s w->s.2.length<=s.1/\s.1<=65536
 seen:∀s w,St s w->s.1<65536->St (s.1+1,s.2) (w.setCell ⟨A,11,none⟩ (.int .i64 ((s.1:Int)+1)))/\AC DM w (w.setCell ⟨A,11,none⟩ (.int .i64 ((s.1:Int)+1)))
 x1:1<=x0
 x2:x0<p^m
 n64:n<=64
 r1:∀r∈l1,r.length=n
 r2:∀r∈l2,r.length=n
 k1:l1.length<=256
 k2:l2.length<=256
def WE(p m:Nat)(ml:List Int)(l1 l2:List (List Int))(s:Nat × List Nd)(tl sl:List Int):Nat × List Nd:=(s.1+1,s.2 ++ [⟨tl,sl,(FT p m ml l1 l2 tl sl).1,I3 l1.length l2.length (FT p m ml l1 l2 tl sl)⟩])
def UH(p m:Nat)(ml:List Int)(l1 l2:List (List Int))(n:Nat)(s:Nat × List Nd)(tl sl:List Int)(X:(Nat × List Nd) × Int):(Nat × List Nd) × Int:=
 if s.1=65536 then(s,8) else if 0<=(FT p m ml l1 l2 tl sl).1 then(WE p m ml l1 l2 s tl sl,0) else if tl.length=n then(WE p m ml l1 l2 s tl sl,18) else X
theorem Nb(p m:Nat)(ml:List Int)(l1 l2:List (List Int))(n:Nat)(s:Nat × List Nd)(tl sl:List Int):Nf p m ml l1 l2 n 0 s tl sl=UH p m ml l1 l2 n s tl sl (WE p m ml l1 l2 s tl sl,0):=rfl
theorem Nc(p m:Nat)(ml:List Int)(l1 l2:List (List Int))(n d:Nat)(s:Nat × List Nd)(tl sl:List Int):Nf p m ml l1 l2 n (d+1) s tl sl=UH p m ml l1 l2 n s tl sl (Fb (Nf p m ml l1 l2 n d) (p^m) tl sl n (WE p m ml l1 l2 s tl sl)):=rfl
theorem MZ{R1 R2:Nat}(h1:R1<=256)(h2:R2<=256)(s:Int × Int):(I3 R1 R2 s).length<=256:=by
 unfold I3 P4;split
 .rw[AR];exact h1
 .split
  .rw[AR];exact h2
  .simp
theorem zab{P:Prop}(h:P:=by
 have cC:s.1<65536:=by omega
 have cF:((s.1:Int)==65536)=false:=by simp;omega
 have aZ:(s.1==65536)=false:=by simp;omega
 have bH:=aB.o;rw[if_neg h0]at bH;have aB:=Aa bH;obtain⟨bP,bV⟩:=HH.o.seen _ _ bJ.o cC;have aE:=Aa bP;have aC:=Aa bV;have aV:=aC.o.cell (aP.o SB (by omega)) s0;have bF:=aC.o.cell (aP.o (SB+1) (by omega)) b0;have bE:=aC.o.cell (aP.o (SB+1) (by omega)) b1;have aW:=aC.o.cell (aP.o (SB+1+1) (by omega)) n0;obtain⟨aO,aN,aJ,aI⟩:=Eq (cM.o.keep aC.o) (cJ.o.keep aC.o) (show(∀B,SB<=B->B<wC.heap.size->¬DM (wC.setCell ⟨A,11,none⟩ (.int .i64 ((s.1:Int)+1))) B) from fun B h1 h2=>(aC.o.blk B h2 (aP.o B h1)).2) (show SB<wC.heap.size/\SB+1<wC.heap.size/\SB+1+1<wC.heap.size from⟨World.block_lt_of_cell? _ _ s0,World.block_lt_of_cell? _ _ b0,World.block_lt_of_cell? _ _ n0⟩);have bI:=Aa (H7 (wC.setCell ⟨A,11,none⟩ (.int .i64 ((s.1:Int)+1))) (HH.o.gf _ _ aE.o) HH.o.x1 HH.o.x2 A n HH.o.n64 v1 v2 (HH.o.pr _ _ aE.o) l1 l2 (HH.o.m1 _ _ aE.o) (HH.o.m2 _ _ aE.o) HH.o.r1 HH.o.r2 HH.o.k1 HH.o.k2 tl sl (.slice ta tl.length tc) sv aO.o.1 aN.o.1 bZ.o cB cR.o);clear bP bV bH h0;obtain⟨wD,aX⟩:=nA (wC.setCell ⟨A,11,none⟩ (.int .i64 ((s.1:Int)+1)));rw[aX]at aE aC aO aN aJ bI aV bF bE aW;go_wp2_with fail
 try simp only[aX]
 clear aX s0 b0 b1 n0 cH cG;refine bI.o.mono ?_;rintro e w5⟨mv,rfl,bT,bU,aG⟩;have cQ:=Aa (HH.o.stt.ex _ _ _ aE.o aG);have aL:=Aa (HH.o.stt.keeps aE.o aG);have n5:=aG.cell aW;have b5:=aG.cell bF;have bD:=aG.cell bE;have s5:=aG.cell aV;have cT:=Aa (show Co DM w5 mv (I3 l1.length l2.length (FT p m ml l1 l2 tl sl)) from Co.fresh bT fun B hB=>HH.o.stt.new aE.o aG (bU B hB));obtain⟨aR,aH,cO,cL,aK⟩:=Of (HN.o (s.1+1,s.2) w5 tl sl (.slice ta tl.length tc) sv (FT p m ml l1 l2 tl sl).1 _ mv cQ.o (by show s.2.length<s.1+1;omega) (aO.o.keep aL.o) (aN.o.keep aL.o) cT.o bZ.o (by omega) (MZ HH.o.k1 HH.o.k2 _) cS.o) (fun B (h1:SB<=B) (h2:B<wC.heap.size)=>(aL.o.blk B (Nat.lt_of_lt_of_le h2 aC.o.size) (aJ.o B h1 h2)).2) (aO.o.keep aL.o) (aN.o.keep aL.o) (aU.o.trans (aC.o.trans aL.o));clear bT bU aG bI aV bF bE aW aE aO aN aJ;obtain⟨Wi,aT⟩:∃W,(FT p m ml l1 l2 tl sl).1=W:=⟨_,rfl⟩;rw[aT]at aR aB
 try simp only[aT]
 obtain⟨S1,bC⟩:=nA (WE p m ml l1 l2 s tl sl);have aM:(s.1+1,s.2 ++ [⟨tl,sl,Wi,I3 l1.length l2.length (FT p m ml l1 l2 tl sl)⟩])=S1:=by rw[<-bC,<-aT];rfl
 rw[aM]at aR;rw[bC]at aB HX;clear aT bC aM;by_cases hW:0<=Wi
 .have cE:decide ((0:Int)<=Wi)=true:=by simpa using hW
  have hy:=aB.o;rw[if_pos hW]at hy;subst hy;clear hW aB HX;go_wp2_with (refine aR.o.mono ?_;rintro e w6⟨⟨t,rfl⟩,aD,aA⟩;have aF:=Aa aD;have aQ:=Aa (aK.o.trans aA);clear aD aA)
  go_ret;exact⟨rfl,aF.o,aQ.o⟩
 .have cE:decide ((0:Int)<=Wi)=false:=by simpa using hW
  have bG:=aB.o;rw[if_neg hW]at bG;have aB:=Aa bG;clear hW bG;by_cases hn:tl.length=n
  .have hy:=aB.o;rw[if_pos hn]at hy;subst hy;have cD:((tl.length:Int)==(n:Int))=true:=by simp;omega
   have aY:(tl.length==n)=true:=by simp;omega
   have HA:=Aa (fun w' (h:St S1 w')=>(HH.o.pr _ _ h).c4);clear hn aB HX;go_wp2_with (refine aR.o.mono ?_;rintro e w6⟨⟨t,rfl⟩,aD,aA⟩;have a4:=HA.o w6 aD;have s6:=aA.cell (aH.o SB (by omega) aI.o.1) s5;have b6:=aA.cell (aH.o (SB+1) (by omega) aI.o.2.1) b5;have aF:=Aa aD;have aQ:=Aa (aK.o.trans aA);clear aD aA s5 b5 bD n5)
   go_quiet (fail)
   go_wp2_with fail
   go_ret;exact⟨rfl,HH.o.stt.ex _ _ _ aF.o ((Ex.refl _).drewN _),aQ.o.trans (HH.o.stt.keeps aF.o ((Ex.refl _).drewN _))⟩
  .have hy:=aB.o;rw[if_neg hn]at hy;subst hy;have cD:((tl.length:Int)==(n:Int))=false:=by simp;omega
   have aY:(tl.length==n)=false:=by simp;omega
   have HA:=Aa (fun w' (h:St S1 w')=>(HH.o.pr _ _ h).c4);have bY:=Aa (HX.o hn);clear hn aB HX;go_wp2_with (refine aR.o.mono ?_;rintro e w6⟨⟨t,rfl⟩,aD,aA⟩;have a4:=HA.o w6 aD;have s6:=aA.cell (aH.o SB (by omega) aI.o.1) s5;have b6:=aA.cell (aH.o (SB+1) (by omega) aI.o.2.1) b5;have b6':=aA.cell (aH.o (SB+1) (by omega) aI.o.2.1) bD;have n6:=aA.cell (aH.o (SB+1+1) (by omega) aI.o.2.2) n5;have aF:=Aa aD;have aQ:=Aa (aK.o.trans aA);have cA:=Aa aA;have cN:=Aa (cO.o.keep aA);have cK:=Aa (cL.o.keep aA);clear aD aA s5 b5 bD n5)
   have bK:=Aa (fun B (h1:SB<=B) (h2:B<wC.heap.size)=>(cA.o.blk B (Nat.lt_of_lt_of_le h2 (Nat.le_trans aC.o.size aL.o.size)) (aH.o B h1 h2)).2);have cI:=Aa (fun k=>bY.o (w6.drewN k) SB (SB+1+1) ((Ux.stt HH.o.stt SB (SB+1+1) A _).ex _ _ _ ⟨aF.o,s6,n6,bK.o SB (by omega) aI.o.1,bK.o (SB+1+1) (by omega) aI.o.2.2⟩ ((Ex.refl _).drewN k)) (cN.o.keep (HH.o.stt.keeps aF.o ((Ex.refl _).drewN k))) (cK.o.keep (HH.o.stt.keeps aF.o ((Ex.refl _).drewN k))));have cU:=Aa (fun k=>aQ.o.trans (HH.o.stt.keeps aF.o ((Ex.refl w6).drewN k)));clear bY cA aH bK
   go_quiet (fail)
   go_wp2_with (go_at_call 181;refine(cI.o _).mono ?_;rintro e w8⟨rfl,bQ,bW⟩;have cP:=Aa bQ;have cV:=Aa ((cU.o _).trans bW);clear bQ bW)
   go_ret;exact⟨rfl,cP.o,cV.o⟩):P:=h
theorem zan{P:Prop}(h:P:=by
 have cF:((s.1:Int)==65536)=true:=by simp;omega
 have aZ:(s.1==65536)=true:=by simp;omega
 have hy:=aB.o;rw[if_pos h0]at hy;subst hy;go_wp2_with fail
 go_ret;exact⟨rfl,bJ.o,aU.o⟩):P:=h
theorem Oe{p m:Nat}{ml:List Int}{l1 l2:List (List Int)}{n A b x0:Nat}{v1 v2:Value}{St:Nat × List Nd->World->Prop}{DM:World->Nat->Prop}(H:Ys p m ml l1 l2 n A b x0 v1 v2 St DM)(p0:Value)
  (hN:∀s w (tl sl:List Int) tv sv side msg mv,St s w->s.2.length<s.1->Co DM w tv tl->Co DM w sv sl->Co DM w mv msg->sl.length=tl.length->tl.length<=64->msg.length<=256->(s.2≠ []->tl≠ [])->Calls Tryz.prog 172 #[.agg #[tv,sv],.int .i64 side,mv,p0] w fun r w'=>(∃t,r= .returned t)/\St (s.1,s.2 ++ [⟨tl,sl,side,msg⟩]) w'/\AC DM w w')
  (s:Nat × List Nd) (w:World) (tl sl:List Int) (tv sv:Value) (X:(Nat × List Nd) × Int) (cB:tl.length<=n) (bO:sl.length=tl.length) (bR:Bz tl n=true) (bS:s.2≠ []->tl≠ []) (hs:St s w) (ht:Co DM w tv tl) (bN:Co DM w sv sl)
  (hX:tl.length≠n->∀w' SB bX,Ux St DM SB bX A (.func (.func 172) #[] #[p0]) (WE p m ml l1 l2 s tl sl) w'->Co DM w' tv tl->Co DM w' sv sl->Calls Tryz.prog 181 #[.pointer (some ⟨A,0,none⟩),.agg #[tv,sv],.func (.func 193) #[] #[.pointer (some ⟨SB,0,none⟩),.pointer (some ⟨bX,0,none⟩)]] w' fun r w''=>r= .returned (.int .i64 X.2)/\St X.1 w''/\AC DM w' w''):
  Calls Tryz.prog 142 #[.pointer (some ⟨A,0,none⟩),.agg #[tv,sv],.func (.func 172) #[] #[p0]] w fun r w'=>r= .returned (.int .i64 (UH p m ml l1 l2 n s tl sl X).2)/\St (UH p m ml l1 l2 n s tl sl X).1 w'/\AC DM w w':=by
 have e1:=AE w (.cells #[.pointer (some ⟨A,0,none⟩)] 186);have s0:(w.alloc (.cells #[.pointer (some ⟨A,0,none⟩)] 186)).cell? ⟨w.heap.size,0,none⟩=some (.pointer (some ⟨A,0,none⟩)):=ag;have bM:(w.alloc (.cells #[.pointer (some ⟨A,0,none⟩)] 186)).heap.size=w.heap.size+1:=ag;obtain⟨b0,b1,e2,bL⟩:=AH (w.alloc (.cells #[.pointer (some ⟨A,0,none⟩)] 186)) tv sv;have e3:=AE ((w.alloc (.cells #[.pointer (some ⟨A,0,none⟩)] 186)).alloc (.cells #[tv,sv] 71)) (.cells #[.func (.func 172) #[] #[p0]] 190);have n0:(((w.alloc (.cells #[.pointer (some ⟨A,0,none⟩)] 186)).alloc (.cells #[tv,sv] 71)).alloc (.cells #[.func (.func 172) #[] #[p0]] 190)).cell? ⟨w.heap.size+1+1,0,none⟩=some (.func (.func 172) #[] #[p0]):=by
  exact AK _ _ _ ag
 rw[bM]at b0 b1 bL;replace s0:=(e2.trans e3).cell s0;replace b0:=e3.cell b0;replace b1:=e3.cell b1;have aS:=e1.trans (e2.trans e3);have bJ:=Aa (H.stt.ex _ _ _ hs aS);have aU:=Aa (H.stt.keeps hs aS);have cM:=Aa (ht.keep aU.o);have cJ:=Aa (bN.keep aU.o);obtain⟨SB,bB⟩:∃B,w.heap.size=B:=⟨_,rfl⟩;rw[bB]at s0 b0 b1 n0;have aP:=Aa (fun B (h:SB<=B)=>H.stt.new hs aS (B:=B) ac);obtain⟨cH,cG⟩:=H.c11 _ _ bJ.o;have hle:=H.le _ _ hs;obtain⟨ta,tc,rfl,-,t2,-⟩:=ht.1.open;unfold maxLen at t2;obtain⟨HH,HN,HX,cR,cS,bZ⟩:=To H hN hX bR bS bO;have h64:=H.n64;obtain⟨Y,hY⟩:=nA (UH p m ml l1 l2 n s tl sl X);have bA:=hY;unfold UH at bA;rw[hY];have aB:=Aa bA;clear hs ht bN H hN hX bR bS bO e1 e2 e3 bM bL aS hY bA;go_enter Tryz.func142,Tryz.ntmps142
 go_upto_region 1 with fail
 try simp only[bB]
 clear bB;generalize ((w.alloc (.cells #[.pointer (some ⟨A,0,none⟩)] 186)).alloc (.cells #[.slice ta tl.length tc,sv] 71)).alloc (.cells #[.func (.func 172) #[] #[p0]] 190)=wC at *;by_cases h0:s.1=65536
 .exact zan
 .exact zab
theorem zah{P:Prop}(h:P:=by
 refine(Ib w1 SB aF A _ aG aH (Nf p m ml l1 l2 n d s1 (tl ++ [(j:Int)]) (sl ++ [(c:Int)])).2 (fun w''=>St (Nf p m ml l1 l2 n d s1 (tl ++ [(j:Int)]) (sl ++ [(c:Int)])).1 w''/\AC DM w1 w'') h1.2.1 h1.2.2.1 (fun w2 aI=>?_)).mono ?_
 .have aE:=H.stt.keeps h1.1 aI;refine(ih s1 w2 (tl ++ [(j:Int)]) (sl ++ [(c:Int)]) aG aH (by rw[List.length_append];simp;omega) (by simp[aA]) (Ha aB hj) (fun _=>by simp) (H.stt.ex _ _ _ h1.1 aI) (aK.keep aE) (aM.keep aE)).mono ?_;rintro r w3⟨rfl,h3,h4⟩;exact⟨rfl,h3,aE.trans h4⟩
 .rintro r w3⟨rfl,h3,h4⟩;exact⟨rfl,h1.keep h3 h4,h4⟩):P:=h
theorem OR{p m:Nat}{ml:List Int}{l1 l2:List (List Int)}{n A b x0:Nat}{v1 v2:Value}{St:Nat × List Nd->World->Prop}{DM:World->Nat->Prop}(H:Ys p m ml l1 l2 n A b x0 v1 v2 St DM)(p0:Value)
  (hN:∀s w (tl sl:List Int) tv sv side msg mv,St s w->s.2.length<s.1->Co DM w tv tl->Co DM w sv sl->Co DM w mv msg->sl.length=tl.length->tl.length<=64->msg.length<=256->(s.2≠ []->tl≠ [])->Calls Tryz.prog 172 #[.agg #[tv,sv],.int .i64 side,mv,p0] w fun r w'=>(∃t,r= .returned t)/\St (s.1,s.2 ++ [⟨tl,sl,side,msg⟩]) w'/\AC DM w w'):
  ∀(d:Nat) (s:Nat × List Nd) (w:World) (tl sl:List Int) (tv sv:Value),tl.length+d=n->sl.length=tl.length->Bz tl n=true->(s.2≠ []->tl≠ [])->St s w->Co DM w tv tl->Co DM w sv sl->
  Calls Tryz.prog 142 #[.pointer (some ⟨A,0,none⟩),.agg #[tv,sv],.func (.func 172) #[] #[p0]] w fun r w'=>r= .returned (.int .i64 (Nf p m ml l1 l2 n d s tl sl).2)/\St (Nf p m ml l1 l2 n d s tl sl).1 w'/\AC DM w w':=by
 intro d
 induction d with
 | zero=>
  intro s w tl sl tv sv hd aA aB aD hs ht aC;rw[Nb];exact Oe H p0 hN s w tl sl tv sv _ ac aA aB aD hs ht aC fun h=>absurd hd ac
 | succ d ih=>
  intro s w tl sl tv sv hd aA aB aD hs ht aC;rw[Nc];refine Oe H p0 hN s w tl sl tv sv _ ac aA aB aD hs ht aC fun hn w' SB aF hb aL aN=>?_;have aJ:=H.gf _ _ hb.1;have hq:=aJ.sh.q;have hq2:=aJ.sh.p2;have hN64:=H.n64;have aO:tl.length<=64:=db;refine(QG (Ux.stt H.stt SB aF A (.func (.func 172) #[] #[p0])) (Nf p m ml l1 l2 n d) w' A b n (p^m) (Nat.pow_pos ac) hq H.n64 (.pointer (some ⟨SB,0,none⟩)) (.pointer (some ⟨aF,0,none⟩)) tl sl tv sv (fun s1 w1 h1=>⟨(H.pr _ _ h1.1).c0,(H.pr _ _ h1.1).c4,BN w1 (H.gf _ _ h1.1)⟩) (fun s1 w1 j c aG aH h1 hj hc hc1 hcq aK aM=>?_) aO ac _ hb aL aN).mono ?_
  .exact zah
  .rintro r w3⟨rfl,h3,h4⟩;exact⟨rfl,h3.1,h4⟩
theorem Od{p m:Nat}{ml:List Int}{l1 l2:List (List Int)}{n A b x0:Nat}{v1 v2:Value}{St:Nat × List Nd->World->Prop}{DM:World->Nat->Prop}(H:Ys p m ml l1 l2 n A b x0 v1 v2 St DM)(p0:Value)
  (hN:∀s w (tl sl:List Int) tv sv side msg mv,St s w->s.2.length<s.1->Co DM w tv tl->Co DM w sv sl->Co DM w mv msg->sl.length=tl.length->tl.length<=64->msg.length<=256->(s.2≠ []->tl≠ [])->Calls Tryz.prog 143 #[.agg #[tv,sv],.int .i64 side,mv,p0] w fun r w'=>(∃t,r= .returned t)/\St (s.1,s.2 ++ [⟨tl,sl,side,msg⟩]) w'/\AC DM w w')
  (s:Nat × List Nd) (w:World) (tl sl:List Int) (tv sv:Value) (X:(Nat × List Nd) × Int) (cB:tl.length<=n) (bO:sl.length=tl.length) (bR:Bz tl n=true) (bS:s.2≠ []->tl≠ []) (hs:St s w) (ht:Co DM w tv tl) (bN:Co DM w sv sl)
  (hX:tl.length≠n->∀w' SB bX,Ux St DM SB bX A (.func (.func 143) #[] #[p0]) (WE p m ml l1 l2 s tl sl) w'->Co DM w' tv tl->Co DM w' sv sl->Calls Tryz.prog 181 #[.pointer (some ⟨A,0,none⟩),.agg #[tv,sv],.func (.func 193) #[] #[.pointer (some ⟨SB,0,none⟩),.pointer (some ⟨bX,0,none⟩)]] w' fun r w''=>r= .returned (.int .i64 X.2)/\St X.1 w''/\AC DM w' w''):
  Calls Tryz.prog 142 #[.pointer (some ⟨A,0,none⟩),.agg #[tv,sv],.func (.func 143) #[] #[p0]] w fun r w'=>r= .returned (.int .i64 (UH p m ml l1 l2 n s tl sl X).2)/\St (UH p m ml l1 l2 n s tl sl X).1 w'/\AC DM w w':=by
 have e1:=AE w (.cells #[.pointer (some ⟨A,0,none⟩)] 186);have s0:(w.alloc (.cells #[.pointer (some ⟨A,0,none⟩)] 186)).cell? ⟨w.heap.size,0,none⟩=some (.pointer (some ⟨A,0,none⟩)):=ag;have bM:(w.alloc (.cells #[.pointer (some ⟨A,0,none⟩)] 186)).heap.size=w.heap.size+1:=ag;obtain⟨b0,b1,e2,bL⟩:=AH (w.alloc (.cells #[.pointer (some ⟨A,0,none⟩)] 186)) tv sv;have e3:=AE ((w.alloc (.cells #[.pointer (some ⟨A,0,none⟩)] 186)).alloc (.cells #[tv,sv] 71)) (.cells #[.func (.func 143) #[] #[p0]] 190);have n0:(((w.alloc (.cells #[.pointer (some ⟨A,0,none⟩)] 186)).alloc (.cells #[tv,sv] 71)).alloc (.cells #[.func (.func 143) #[] #[p0]] 190)).cell? ⟨w.heap.size+1+1,0,none⟩=some (.func (.func 143) #[] #[p0]):=by
  exact AK _ _ _ ag
 rw[bM]at b0 b1 bL;replace s0:=(e2.trans e3).cell s0;replace b0:=e3.cell b0;replace b1:=e3.cell b1;have aS:=e1.trans (e2.trans e3);have bJ:=Aa (H.stt.ex _ _ _ hs aS);have aU:=Aa (H.stt.keeps hs aS);have cM:=Aa (ht.keep aU.o);have cJ:=Aa (bN.keep aU.o);obtain⟨SB,bB⟩:∃B,w.heap.size=B:=⟨_,rfl⟩;rw[bB]at s0 b0 b1 n0;have aP:=Aa (fun B (h:SB<=B)=>H.stt.new hs aS (B:=B) ac);obtain⟨cH,cG⟩:=H.c11 _ _ bJ.o;have hle:=H.le _ _ hs;obtain⟨ta,tc,rfl,-,t2,-⟩:=ht.1.open;unfold maxLen at t2;obtain⟨HH,HN,HX,cR,cS,bZ⟩:=To H hN hX bR bS bO;have h64:=H.n64;obtain⟨Y,hY⟩:=nA (UH p m ml l1 l2 n s tl sl X);have bA:=hY;unfold UH at bA;rw[hY];have aB:=Aa bA;clear hs ht bN H hN hX bR bS bO e1 e2 e3 bM bL aS hY bA;go_enter Tryz.func142,Tryz.ntmps142
 go_upto_region 1 with fail
 try simp only[bB]
 clear bB;generalize ((w.alloc (.cells #[.pointer (some ⟨A,0,none⟩)] 186)).alloc (.cells #[.slice ta tl.length tc,sv] 71)).alloc (.cells #[.func (.func 143) #[] #[p0]] 190)=wC at *;by_cases h0:s.1=65536
 .exact zan
 .exact zab
theorem OQ{p m:Nat}{ml:List Int}{l1 l2:List (List Int)}{n A b x0:Nat}{v1 v2:Value}{St:Nat × List Nd->World->Prop}{DM:World->Nat->Prop}(H:Ys p m ml l1 l2 n A b x0 v1 v2 St DM)(p0:Value)
  (hN:∀s w (tl sl:List Int) tv sv side msg mv,St s w->s.2.length<s.1->Co DM w tv tl->Co DM w sv sl->Co DM w mv msg->sl.length=tl.length->tl.length<=64->msg.length<=256->(s.2≠ []->tl≠ [])->Calls Tryz.prog 143 #[.agg #[tv,sv],.int .i64 side,mv,p0] w fun r w'=>(∃t,r= .returned t)/\St (s.1,s.2 ++ [⟨tl,sl,side,msg⟩]) w'/\AC DM w w'):
  ∀(d:Nat) (s:Nat × List Nd) (w:World) (tl sl:List Int) (tv sv:Value),tl.length+d=n->sl.length=tl.length->Bz tl n=true->(s.2≠ []->tl≠ [])->St s w->Co DM w tv tl->Co DM w sv sl->
  Calls Tryz.prog 142 #[.pointer (some ⟨A,0,none⟩),.agg #[tv,sv],.func (.func 143) #[] #[p0]] w fun r w'=>r= .returned (.int .i64 (Nf p m ml l1 l2 n d s tl sl).2)/\St (Nf p m ml l1 l2 n d s tl sl).1 w'/\AC DM w w':=by
 intro d
 induction d with
 | zero=>
  intro s w tl sl tv sv hd aA aB aD hs ht aC;rw[Nb];exact Od H p0 hN s w tl sl tv sv _ ac aA aB aD hs ht aC fun h=>absurd hd ac
 | succ d ih=>
  intro s w tl sl tv sv hd aA aB aD hs ht aC;rw[Nc];refine Od H p0 hN s w tl sl tv sv _ ac aA aB aD hs ht aC fun hn w' SB aF hb aL aN=>?_;have aJ:=H.gf _ _ hb.1;have hq:=aJ.sh.q;have hq2:=aJ.sh.p2;have hN64:=H.n64;have aO:tl.length<=64:=db;refine(QG (Ux.stt H.stt SB aF A (.func (.func 143) #[] #[p0])) (Nf p m ml l1 l2 n d) w' A b n (p^m) (Nat.pow_pos ac) hq H.n64 (.pointer (some ⟨SB,0,none⟩)) (.pointer (some ⟨aF,0,none⟩)) tl sl tv sv (fun s1 w1 h1=>⟨(H.pr _ _ h1.1).c0,(H.pr _ _ h1.1).c4,BN w1 (H.gf _ _ h1.1)⟩) (fun s1 w1 j c aG aH h1 hj hc hc1 hcq aK aM=>?_) aO ac _ hb aL aN).mono ?_
  .exact zah
  .rintro r w3⟨rfl,h3,h4⟩;exact⟨rfl,h3.1,h4⟩
end Go.Proofs.YtehieobniamagaaGreat
