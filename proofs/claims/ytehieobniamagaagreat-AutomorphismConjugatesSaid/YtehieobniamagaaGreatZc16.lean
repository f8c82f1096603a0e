/- Walk of equivalence.Refute. -/
import Derived.Test.YtehieobniamagaaGreatZc15
namespace Go.Proofs.YtehieobniamagaaGreat
open Go.RowKit
set_option linter.all false
set_option maxRecDepth 100000
set_option maxHeartbeats 8000000
structure Rf where
 tp:Int
 sc:Int
 side:Int
 msg:List Int
def Rf.cells(e:Rf)(mv:Value):List Value:= [.int .i64 e.tp,.int .i64 e.sc,.int .i64 e.side,mv]
def PP:List Rf->List Value->List Value
 | e :: es,v :: vs=>e.cells v++PP es vs
 | _,_=> []
theorem S7:∀(es:List Rf) (vs:List Value),vs.length=es.length->(PP es vs).length=es.length*4
 | [], [],_=>rfl
 | [],v :: vs,h=>by simp at h
 | e :: es, [],h=>by simp at h
 | e :: es,v :: vs,h=>by
  have:=S7 es vs ay;show(e.cells v++PP es vs).length=_
  rw[List.length_append,this];simp[Rf.cells];omega
theorem PM:∀(es:List Rf) (vs:List Value) (e:Rf) (v:Value),vs.length=es.length->PP (es ++ [e]) (vs ++ [v])=PP es vs++e.cells v
 | [], [],e,v,_=>by simp[PP]
 | [],u :: vs,e,v,h=>by simp at h
 | x :: es, [],e,v,h=>by simp at h
 | x :: es,u :: vs,e,v,h=>by
  show x.cells u++PP (es ++ [e]) (vs ++ [v])=x.cells u++PP es vs++e.cells v
  rw[PM es vs e v (by simpa using h),List.append_assoc]
def ndR(x:Nd):Rf:=⟨x.tl.getD (x.tl.length-1) 0,x.sc.getD (x.sc.length-1) 0,x.side,x.msg⟩
def Hl:List Nd->List Rf
 | []=> []
 | x :: t=>⟨0,0,x.side,x.msg⟩ :: t.map ndR
theorem Fu(L:List Nd):(Hl L).length=L.length:=by cases L <;> simp[Hl]
theorem Nl(L:List Nd)(x:Nd):Hl (L ++ [x])=Hl L ++ [if L= [] then⟨0,0,x.side,x.msg⟩ else ndR x]:=by
 cases L with
 | nil=>simp[Hl]
 | cons y t=>simp[Hl]
def Yj(w:World)(v:Value)(es:List Rf):Prop:=∃mvs:List Value,mvs.length=es.length/\Sl w v es.length 4 (PP es mvs)/\∀(i:Nat) (e:Rf) (mv:Value),es[i]?=some e->mvs[i]?=some mv->Aj w mv e.msg
theorem Yj.ex{w w':World}{v:Value}{es:List Rf}(h:Yj w v es)(hx:Ex w w'):Yj w' v es:=by
 obtain⟨m,h1,h2,h3⟩:=h;exact⟨m,h1,h2.ex hx,fun i e mv a b=>(h3 i e mv a b).ex hx⟩
theorem RY:(Tryz.prog.info? 176).map (fun i=>(i.zero,i.size,i.bytes))=some (some (.agg #[(0:Int),(0:Int),(0:Int),.slice none 0 0]),4,48):=ah
def Q9(A NB:Nat)(RB:Nat->Prop):World->Nat->Prop:=fun w X=>X=A∨X=NB∨RB X∨∃ev,w.cell? (NB,0)=some ev/\ev.ownBlock=some X
structure Kz(w2:World)(A NB:Nat)(RB:Nat->Prop)(b n:Nat)(v1 v2:Value)(s:Nat × List Nd)(w:World):Prop where
 sw:SA w2 A b n v1 v2 s w
 ne:A<NB
 rb:∀X,RB X->X<w2.heap.size
 en:∃ev mvs,w.cell? (NB,0)=some ev/\w.ownsRow (NB+1) 176 4 ev s.2.length (PP (Hl s.2) mvs)/\mvs.length=s.2.length/\∀(i:Nat) (e:Rf) (mv:Value),(Hl s.2)[i]?=some e->mvs[i]?=some mv->C7 (Q9 A NB RB) w mv e.msg
 f0:w.frozen? (NB,0)=false
section
variable {w2 w w':World} {A NB b n:Nat} {RB:Nat->Prop} {v1 v2:Value} {s:Nat × List Nd}
theorem Kz.dm(h:Kz w2 A NB RB b n v1 v2 s w)(hx:Ex w w'){X:Nat}(hd:Q9 A NB RB w' X):Q9 A NB RB w X:=by
 rcases hd with hd|hd|hd|⟨ev,h1,h2⟩
 .exact .inl hd
 .exact .inr (.inl hd)
 .exact .inr (.inr (.inl hd))
 .obtain⟨ev',m,h3,-⟩:=h.en;rw[hx.cell h3]at h1;injection h1 with h1;subst h1;exact .inr (.inr (.inr ⟨_,h3,h2⟩))
theorem Kz.keeps(h:Kz w2 A NB RB b n v1 v2 s w)(hx:Ex w w'):AO (Q9 A NB RB) w w':=
 ⟨hx.size,fun B hB hn=>⟨hx.block B hB,fun hd=>hn (h.dm hx hd)⟩⟩
theorem Kz.stt:Vz (Kz w2 A NB RB b n v1 v2) (Q9 A NB RB) where
 ex:=fun s w w' h hx=>by
  obtain⟨ev,mvs,h1,h2,h3,h4⟩:=h.en;exact⟨h.sw.later hx,h.ne,h.rb,⟨ev,mvs,hx.cell h1,Ai h2 hx,h3,fun i e mv a b=>(h4 i e mv a b).keep (h.keeps hx)⟩,hx.frz h1 h.f0⟩
 lt:=fun s w B h hd=>by
  obtain⟨ev,mvs,h1,h2,-⟩:=h.en;rcases hd with rfl|rfl|hd|⟨ev',h3,h4⟩
  .exact World.block_lt_of_cell? _ _ h.sw.c11
  .exact World.block_lt_of_cell? _ _ h1
  .exact Nat.lt_of_lt_of_le (h.rb B hd) h.sw.ex.size
  .rw[h1]at h3;injection h3 with h3;subst h3;exact(h2.lt B h4).2
 dx:=fun s w w' B h hx hd=>h.dm hx hd
theorem Kz.seen(h:Kz w2 A NB RB b n v1 v2 s w)(hs:s.1<65536):Kz w2 A NB RB b n v1 v2 (s.1+1,s.2) (w.setCell (A,11) (.int .i64 ((s.1:Int)+1)))/\AO (Q9 A NB RB) w (w.setCell (A,11) (.int .i64 ((s.1:Int)+1))):=by
 have aC:A≠NB:=by have:=h.ne;omega
 have aA:∀u:Value,(w.setCell (A,11) u).cell? (NB,0)=w.cell? (NB,0):=fun u=>Ah aC;have hk:AO (Q9 A NB RB) w (w.setCell (A,11) (.int .i64 ((s.1:Int)+1))):=FE (.inl rfl) fun X hd=>by
  rcases hd with hd|hd|hd|⟨ev,h1,h2⟩
  .exact .inl hd
  .exact .inr (.inl hd)
  .exact .inr (.inr (.inl hd))
  .rw[aA]at h1;exact .inr (.inr (.inr ⟨ev,h1,h2⟩))
 obtain⟨ev,aB,h1,h2,h3,h4⟩:=h.en;refine⟨⟨h.sw.seen hs,h.ne,h.rb,⟨ev,aB,by rw[aA];exact h1,Ac (a:=⟨A,11,none⟩) h2 (fun e=>?_) _,h3,fun i e mv a b=>(h4 i e mv a b).keep hk⟩,by rw[Ax];exact h.f0⟩,hk⟩;have:=(h2.lt A e).1;have:=h.ne;omega
theorem Kz.app(h:Kz w2 A NB RB b n v1 v2 s w)(hl:s.2.length<s.1){ev:Value}{x:Nd}{mv v':Value}{aC:List Value}(hc:w.cell? (NB,0)=some ev)(h2:w.ownsRow (NB+1) 176 4 ev s.2.length (PP (Hl s.2) aC))(h3:aC.length=s.2.length)(h4:∀(i:Nat) (e:Rf) (mv:Value),(Hl s.2)[i]?=some e->aC[i]?=some mv->C7 (Q9 A NB RB) w mv e.msg)(hm:C7 (Q9 A NB RB) w mv x.msg)
  (ha:Bt w w' (NB+1) 176 4 ev v' s.2.length (PP (Hl s.2) aC) ((if s.2= [] then(⟨0,0,x.side,x.msg⟩:Rf) else ndR x).cells mv)) (hb:w2.heap.size<=A):
  Kz w2 A NB RB b n v1 v2 (s.1,s.2 ++ [x]) (w'.setCell (NB,0) v')/\AO (Q9 A NB RB) w (w'.setCell (NB,0) v'):=by
 have aF:some NB≠ev.ownBlock:=fun e=>by have:=(h2.lt NB e.symm).1;omega
 have aD:some A≠ev.ownBlock:=fun e=>by have:=(h2.lt A e.symm).1;have:=h.ne;omega
 have aG:=ha.cell hc aF;have hlt:NB<w.heap.size:=World.block_lt_of_cell? _ _ hc;have aE:v'.ownBlock≠some NB:=fun e=>by
  rcases ha.at_ with h5|h5
  .rw[h5]at e;exact aF e.symm
  .rw[h5]at e;injection e with e;omega
 have aA:AO (Q9 A NB RB) w (w'.setCell (NB,0) v'):=by
  obtain⟨o,hg⟩:=ha.gr;refine⟨by rw[Dc];exact Nat.le_of_lt ha.grow,fun B hB hn=>⟨?_,?_⟩⟩
  .have aJ:B≠NB:=fun e=>hn (.inr (.inl e));have h5:(w'.setCell (NB,0) v').heap[B]?=w'.heap[B]?:=Below.heap_setCell w' ⟨NB,0,none⟩ v' B aJ;rw[h5,hg.block B aq (fun e=>hn (.inr (.inr (.inr ⟨ev,hc,e.symm⟩))))];show(w.heap.push o)[B]?=_
   exact Array.getElem?_push_lt hB ▸ (by simp[hB])
  .rintro (hd|hd|hd|⟨ev2,h5,h6⟩)
   .exact hn (.inl hd)
   .exact hn (.inr (.inl hd))
   .exact hn (.inr (.inr (.inl hd)))
   .rw[World.cell?_setCell_same _ _ _ aG]at h5;injection h5 with h5;subst h5;rcases ha.at_ with h7|h7
    .rw[h7]at h6;exact hn (.inr (.inr (.inr ⟨ev,hc,h6⟩)))
    .rw[h7]at h6;injection h6 with h6;omega
 refine⟨⟨?_,h.ne,h.rb,⟨v',aC ++ [mv],World.cell?_setCell_same _ _ _ aG,?_,by simp[h3],fun i e u hi hu=>?_⟩,by rw[Ax];exact ha.frz hc h.f0 aF⟩,aA⟩
 .have aH:Ex w2 w':=ha.ex h.sw.ex (by have:=h.ne;omega);have aI:SA w2 A b n v1 v2 s w':=⟨aH,⟨ha.cell h.sw.pr.c0 aD,ha.cell h.sw.pr.c4 aD,ha.cell h.sw.pr.c5 aD,ha.cell h.sw.pr.c10 aD⟩,ha.cell h.sw.c11 aD,ha.frz h.sw.c11 h.sw.f11 aD,h.sw.l1,h.sw.l2,h.sw.lb⟩;exact(aI.other (by have:=h.ne;omega) (by have:=h.ne;omega) v').note hl x
 .have h5:=Ac (a:=⟨NB,0,none⟩) ha.own aE v';show(w'.setCell (NB,0) v').ownsRow _ _ _ _ (s.2 ++ [x]).length (PP (Hl (s.2 ++ [x])) (aC ++ [mv]))
  rw[List.length_append,Nl,PM _ _ _ _ (by rw[h3,Fu])];exact h5
 .have aB:(Hl (s.2 ++ [x]))[i]?=some e:=hi;rw[Nl]at aB;by_cases hil:i<s.2.length
  .rw[List.getElem?_append_left (by rw[Fu];exact hil)]at aB;rw[List.getElem?_append_left (by rw[h3];exact hil)]at hu;exact(h4 i e u aB hu).keep aA
  .rw[List.getElem?_append_right (by rw[Fu];omega)]at aB;rw[List.getElem?_append_right (by rw[h3];omega)]at hu;rw[Fu]at aB;rw[h3]at hu;have h0:i-s.2.length=0:=by
    have:=(List.getElem?_eq_some_iff.1 aB).1;simp at this;omega
   rw[h0]at aB hu;simp at aB hu;subst hu;have:e.msg=x.msg:=by rw[<-aB];split <;> rfl
   rw[this];exact hm.keep aA
theorem V9(h:Kz w2 A NB RB b n v1 v2 s w)(hl:s.2.length<s.1){tl sl msg:List Int}{side:Int}{tv sv mv:Value}(ht:C7 (Q9 A NB RB) w tv tl)(hs:C7 (Q9 A NB RB) w sv sl)(hm:C7 (Q9 A NB RB) w mv msg)(h64:tl.length<=64)(bA:sl.length=tl.length)(aC:s.2≠ []->tl≠ []):
  Calls Tryz.prog 143 #[.agg #[tv,sv],side,mv,.pointer (some (NB,0))] w fun r w'=>(∃t,r= .returned t)/\Kz w2 A NB RB b n v1 v2 (s.1,s.2 ++ [⟨tl,sl,side,msg⟩]) w'/\AO (Q9 A NB RB) w w':=by
 obtain⟨b0,b1,e1,aE⟩:=AX w tv sv;have e2:=AI (w.alloc (.cells #[tv,sv] 71)) (.cells #[(0:Int),(0:Int),side,mv] 176);have x0:((w.alloc (.cells #[tv,sv] 71)).alloc (.cells #[(0:Int),(0:Int),side,mv] 176)).cell? (w.heap.size+1,0)=some (.int .i64 0):=cq;have x1:((w.alloc (.cells #[tv,sv] 71)).alloc (.cells #[(0:Int),(0:Int),side,mv] 176)).cell? (w.heap.size+1,1)=some (.int .i64 0):=cq;have x2:((w.alloc (.cells #[tv,sv] 71)).alloc (.cells #[(0:Int),(0:Int),side,mv] 176)).cell? (w.heap.size+1,2)=some (.int .i64 side):=cq;have x3:((w.alloc (.cells #[tv,sv] 71)).alloc (.cells #[(0:Int),(0:Int),side,mv] 176)).cell? (w.heap.size+1,3)=some mv:=cq;have aO:((w.alloc (.cells #[tv,sv] 71)).alloc (.cells #[(0:Int),(0:Int),side,mv] 176)).frozen? (w.heap.size+1,0)=false:=cq;have aN:((w.alloc (.cells #[tv,sv] 71)).alloc (.cells #[(0:Int),(0:Int),side,mv] 176)).frozen? (w.heap.size+1,1)=false:=cq;replace b0:=e2.cell b0;replace b1:=e2.cell b1;have hx:=e1.trans e2;obtain⟨ev,mvs,c0,ho,bG,-⟩:=(Kz.stt.ex _ _ _ h hx).en;obtain⟨ea,ec,rfl⟩:=Ad ho;have aV:w.cell? (NB,0)=some (.slice ea s.2.length ec):=by
  obtain⟨bB,_,h1,_⟩:=h.en;rw[hx.cell h1]at c0;rw[h1];exact c0
 obtain⟨ta,tc,rfl,-,t2,t3⟩:=ht.1.open;obtain⟨sa,sc,rfl,-,s2,s3⟩:=hs.1.open;obtain⟨ma,mc,rfl,-,m2,-⟩:=hm.1.open;unfold maxLen at t2 s2 m2;have aU:NB<w.heap.size:=World.block_lt_of_cell? _ _ aV;obtain⟨HH,HT,HS,HM,HX,bE,bN,bD,T3,S3,bK⟩:=Ha0 h ht hs hm hx aV h.sw.l2 h.sw.lb t3 s3 bA;obtain⟨B,hB⟩:=nA w.heap.size;rw[hB]at b0 b1 x0 x1 x2 x3 aO aN aU;have aI:=Aa hB;have HOO:=Aa ho;have aX:=Aa hl;obtain⟨N,hN⟩:=nA s.2.length;have HN:=Aa hN;rw[hN]at c0 bE;clear h ht hs hm hx e1 e2 aE aV t3 s3 bA ho bG hl;go_enter Tryz.func143,Tryz.ntmps143
 go_upto_region 2 with fail
 try simp only[hB]
 clear hB hN;generalize (w.alloc (.cells #[.slice ta tl.length tc,.slice sa sl.length sc] 71)).alloc (.cells #[(0:Int),(0:Int),side,.slice ma msg.length mc] 176)=w3 at *;have aW:=Aa (Kz.stt.ex _ _ _ HH.o HX.o);have bF:NB+1<=w3.heap.size:=by have:=HX.o.size;have:=aI.o;omega
 have bI:=Aa bF;have hN16:N<=65536:=by have:=bN.o;have:=aX.o;have:=HN.o;omega
 by_cases h0:N=0
 .subst h0;have bL:=Aa (List.length_eq_zero_iff.1 HN.o);obtain⟨bB,aP,g1,g2,g3,g4⟩:=aW.o.en;rw[c0]at g1;injection g1 with g1;subst g1;have G2:=Aa g2;have G3:=Aa g3;have G4:=Aa g4;rw[HN.o]at g2;have aJ:=Aa g2;have f0:=aW.o.f0;have hdm:((0:Nat):Int)=0:=rfl;clear g2 g3 g4;go_wp2_with (at_builtin;refine Am _ rfl _ _ 92 rfl (NB+1) 176 (.agg #[(0:Int),(0:Int),(0:Int),.slice none 0 0]) 4 48 Tryz.underlying92 RY rfl ae _ 0 _ rfl aJ.o [.int .i64 0,.int .i64 0,.int .i64 side,.slice ma msg.length mc] 176 _ rfl ag rfl aj ai ac bI.o ?_)
  intro v6 w6 aA;have HAP:=Aa aA;have aC:some NB≠Value.ownBlock (.slice ea 0 ec):=fun e=>by have:=(aJ.o.lt NB e.symm).1;omega
  have c6:=aA.cell c0 aC;have f6:=aA.frz c0 f0 aC;have aB:=Aa (aW.o.app (x:=⟨tl,sl,side,msg⟩) (mv:= .slice ma msg.length mc) (v':=v6) (ev:= .slice ea 0 ec) aX.o c0 G2.o G3.o G4.o (HM.o.keep (Kz.keeps HH.o HX.o)) (by rw[HN.o,if_pos bL.o];exact aA) bD.o);obtain⟨va,vc,hv⟩:=Ad aA.own;subst hv;clear aA c0 f0 aC b0 b1 x0 x1 x2 x3 aO aN;go_wp2_with fail
  go_end0
  exact⟨⟨_,rfl⟩,aB.o.1,(Kz.keeps HH.o HX.o).trans aB.o.2⟩
 .have aG:s.2≠ []:=fun e=>h0 (by rw[<-HN.o,e];rfl);have bH:=Aa (aC aG);have bJ:=Aa aG;have hk:0<tl.length:=List.length_pos_iff.2 bH.o;obtain⟨k,aM⟩:∃k,tl.length=k+1:=⟨tl.length-1,ac⟩;have aT:sl.length=k+1:=by rw[bK.o,aM]
  obtain⟨tb,aD,rfl,aQ⟩:=T3.o hk;obtain⟨sb,so,rfl,aS⟩:=S3.o ac;obtain⟨X,hX⟩:∃x,tl.getD k 0=x:=⟨_,rfl⟩;obtain⟨Y,hY⟩:∃x,sl.getD k 0=x:=⟨_,rfl⟩;have hTB:tb<B:=by have:=World.block_lt_of_cell? _ _ (aQ k _ (AU (l:=tl) (i:=k) ac));have h2:=aI.o;simp only at this;omega
  have hSB:sb<B:=by have:=World.block_lt_of_cell? _ _ (aS k _ (AU (l:=sl) (i:=k) ac));have h2:=aI.o;simp only at this;omega
  have cX:=HX.o.cell (aQ k X (by rw[<-hX];exact AU ac));have cY:=HX.o.cell (aS k Y (by rw[<-hY];exact AU ac));have bM:=Aa (show ndR ⟨tl,sl,side,msg⟩=⟨X,Y,side,msg⟩ from by
   unfold ndR;simp only[aM,aT,Nat.add_sub_cancel];rw[hX,hY])
  rw[aM]at b0;rw[aT]at b1;have i1:(0:Int)<=(k:Int):=ac;have i2:(k:Int)<((k+1:Nat):Int):=ac;have i4:(k:Int)<(k:Int)+1:=ac;have bP:=Aa (show wrap64 (k:Int)=(k:Int) from w64 ac ac);have bO:=Aa (show IntKind.i64.wrap (k:Int)=(k:Int) from IntWalk.i64_in _ ac);have hb0:decide ((N:Int) > 0)=true:=aq;have hb0':decide ((0:Int)<(N:Int))=true:=aq;have hb0'':decide (0<N)=true:=aq;clear hX hY aQ aS hk aC aG aM aT t2 s2;have aZ:=Aa (show w3.cell? (B,0)=some (.slice (some (tb,aD)) (k+1) tc)/\w3.cell? (B,1)=some (.slice (some (sb,so)) (k+1) sc)/\w3.cell? (tb,aD+k)=some (.int .i64 X)/\w3.cell? (sb,so+k)=some (.int .i64 Y) from⟨b0,b1,cX,cY⟩);have HTS:=Aa (show tb≠B+1/\sb≠B+1/\NB≠B+1 from⟨ac,ac,ac⟩);go_wp2_with fail
  have aY:=Aa (fun (w':World) (j:Nat) (u:Value) (h:w'.cell? (B,0)=some (.slice (some (tb,aD)) (k+1) tc)/\w'.cell? (B,1)=some (.slice (some (sb,so)) (k+1) sc)/\w'.cell? (tb,aD+k)=some (.int .i64 X)/\w'.cell? (sb,so+k)=some (.int .i64 Y))=>(⟨by rw[Ah (show B+1≠B by omega)];exact h.1,by rw[Ah (show B+1≠B by omega)];exact h.2.1,by rw[Ah (show B+1≠tb by omega)];exact h.2.2.1,by rw[Ah (show B+1≠sb by omega)];exact h.2.2.2⟩:(w'.setCell (B+1,j) u).cell? (B,0)=some (.slice (some (tb,aD)) (k+1) tc)/\(w'.setCell (B+1,j) u).cell? (B,1)=some (.slice (some (sb,so)) (k+1) sc)/\(w'.setCell (B+1,j) u).cell? (tb,aD+k)=some (.int .i64 X)/\(w'.setCell (B+1,j) u).cell? (sb,so+k)=some (.int .i64 Y)));have i6:=bP.o;have i7:=bO.o
  go_region_held3 (fun w'=>w'.cell? (B,0)=some (.slice (some (tb,aD)) (k+1) tc)/\w'.cell? (B,1)=some (.slice (some (sb,so)) (k+1) sc)/\w'.cell? (tb,aD+k)=some (.int .i64 X)/\w'.cell? (sb,so+k)=some (.int .i64 Y))
   (first|exact aZ.o|exact aY.o _ _ _ aZ.o|exact aY.o _ _ _ (aY.o _ _ _ aZ.o)) (fail)
  clear i6 i7;obtain⟨w5,aF⟩:=nA (((w3.setCell (B+1,0) (.int .i64 X)).setCell (B+1,1) (.int .i64 Y)).drew);have aK:Ex w w5:=by
   rw[<-aF];exact((HX.o.setCell (p:=⟨B+1,0,none⟩) (by show w.heap.size<=B+1;have:=aI.o;omega) _).setCell (p:=⟨B+1,1,none⟩) (by show w.heap.size<=B+1;have:=aI.o;omega) _).drew
  have z0:w5.cell? (B+1,0)=some (.int .i64 X):=by
   rw[<-aF];show World.cell? ((w3.setCell _ _).setCell _ _) _=_;rw[Ag ae];exact World.cell?_setCell_same _ _ _ x0
  have z1:w5.cell? (B+1,1)=some (.int .i64 Y):=by
   rw[<-aF];show World.cell? ((w3.setCell _ _).setCell _ _) _=_;exact World.cell?_setCell_same _ _ _ (by rw[Ag ae];exact x1)
  have z2:w5.cell? (B+1,2)=some (.int .i64 side):=by
   rw[<-aF];show World.cell? ((w3.setCell _ _).setCell _ _) _=_;rw[Ag ae,Ag ae];exact x2
  have z3:w5.cell? (B+1,3)=some (.slice ma msg.length mc):=by
   rw[<-aF];show World.cell? ((w3.setCell _ _).setCell _ _) _=_;rw[Ag ae,Ag ae];exact x3
  have aH:=Aa (Kz.stt.ex _ _ _ HH.o aK);have bC:=Aa aK;have c5:=aK.cell bE.o;obtain⟨bB,aP,g1,g2,g3,g4⟩:=aH.o.en;rw[c5]at g1;injection g1 with g1;subst g1;have G2:=Aa g2;have G3:=Aa g3;have G4:=Aa g4;rw[HN.o]at g2;have aJ:=Aa g2;have f5:=aH.o.f0;have aR:NB+1<=w5.heap.size:=by have:=aK.size;have:=aI.o;omega
  have aL:=Aa aR;clear g2 g3 g4 c0 x0 x1 x2 x3 aO aN b0 b1 cX cY aK;go_wp2_with (first|(simp only[aF];clear aF;at_builtin;refine Am _ rfl _ _ 92 rfl (NB+1) 176 (.agg #[(0:Int),(0:Int),(0:Int),.slice none 0 0]) 4 48 Tryz.underlying92 RY rfl ae _ N _ rfl aJ.o [.int .i64 X,.int .i64 Y,.int .i64 side,.slice ma msg.length mc] 176 _ rfl ag rfl aj ai ac aL.o ?_)|(at_builtin;refine Am _ rfl _ _ 92 rfl (NB+1) 176 (.agg #[(0:Int),(0:Int),(0:Int),.slice none 0 0]) 4 48 Tryz.underlying92 RY rfl ae _ N _ rfl aJ.o [.int .i64 X,.int .i64 Y,.int .i64 side,.slice ma msg.length mc] 176 _ rfl ag rfl aj ai ac aL.o ?_))
  intro v6 w6 aA;have aC:some NB≠Value.ownBlock (.slice ea N ec):=fun e=>by have:=(aJ.o.lt NB e.symm).1;omega
  have c6:=aA.cell c5 aC;have f6:=aA.frz c5 f5 aC;have aB:=Aa (aH.o.app (x:=⟨tl,sl,side,msg⟩) (mv:= .slice ma msg.length mc) (v':=v6) (ev:= .slice ea N ec) aX.o c5 G2.o G3.o G4.o (HM.o.keep (Kz.keeps HH.o bC.o)) (by rw[HN.o,if_neg bJ.o,bM.o];exact aA) bD.o);obtain⟨va,vc,hv⟩:=Ad aA.own;subst hv;clear aA c5 f5 aC z0 z1 z2 z3;go_wp2_with fail
  go_end0
  exact⟨⟨_,rfl⟩,aB.o.1,(Kz.keeps HH.o bC.o).trans aB.o.2⟩
end
structure BxR(w:World)(b:Nat):Prop where
 c0:w.cell? (b,0)=some (.slice none 0 0)
 f0:w.frozen? (b,0)=false
theorem BxR.new(w:World):BxR (w.alloc (.cells #[.slice none 0 0] 94)) w.heap.size:=⟨ag,ag⟩
theorem BxR.ex{w w':World}{b:Nat}(h:BxR w b)(hx:Ex w w'):BxR w' b:=⟨hx.cell h.c0,hx.frz h.c0 h.f0⟩
def Q7(FB:Nat->Prop)(w:World)(v:Value)(es:List Rf):Prop:=∃mvs:List Value,mvs.length=es.length/\Sl w v es.length 4 (PP es mvs)/\(∀(i:Nat) (e:Rf) (mv:Value),es[i]?=some e->mvs[i]?=some mv->Aj w mv e.msg/\(e.msg≠ []->∀X,mv.ownBlock=some X->¬FB X))/\∀X,v.ownBlock=some X->¬FB X
theorem Q7.nil(FB:Nat->Prop)(w:World):Q7 FB w (.slice none 0 0) []:=⟨[],rfl,Sl.nil w 4,fun i e mv h=>by simp at h,fun X h=>by cases h⟩
def RfF(FB:Nat->Prop)(es:List Rf)(e:Int)(r:Ending)(w':World):Prop:=∃ev,r= .returned (.tuple #[.agg #[ev],e])/\Q7 FB w' ev es
def Ji(E:Int)(R:(Nat × List Nd) × Int):Int:=if E≠0 then E else if R.2=0 then 0 else if R.2=18 then 11 else R.2
def Jh(E:Int)(R:(Nat × List Nd) × Int):List Rf:=if E≠0 then [] else if R.2=0 then Hl R.1.2 else []
theorem Zj{w2:World}{p m n A NB b x0:Nat}{RB:Nat->Prop}{ml:List Int}{l1 l2:List (List Int)}{v1 v2:Value}(hg:Bj w2 b p m ml x0)(x1:1<=x0)(x2:x0<p^m)(h1:B9 w2 v1 l1)(h2:B9 w2 v2 l2)(hn:n<=64)(r1:∀r∈l1,r.length=n)(r2:∀r∈l2,r.length=n)(k1:l1.length<=256)(k2:l2.length<=256):
  SrE p m ml l1 l2 n A b x0 v1 v2 (Kz w2 A NB RB b n v1 v2) (Q9 A NB RB) where
 stt:=Kz.stt
 pr:=fun s w h=>h.sw.pr
 gf:=fun s w h=>hg.ex h.sw.ex
 m1:=fun s w h=>h1.ex h.sw.ex
 m2:=fun s w h=>h2.ex h.sw.ex
 c11:=fun s w h=>⟨h.sw.c11,h.sw.f11⟩
 le:=fun s w h=>⟨h.sw.l1,h.sw.l2⟩
 seen:=fun s w h hs=>h.seen hs
 x1:=x1
 x2:=x2
 n64:=hn
 r1:=r1
 r2:=r2
 k1:=k1
 k2:=k2
theorem b8{P:Prop}(h:P:=by simp[results,Tryz.results83,go_sem,q0]):P:=h
theorem b9{P:Prop}(h:P:=by rw[aG.o];show B<=B+1+1+1;omega):P:=h
theorem Q6(w:World)(c d:AZ)(m1 m2 v1 v2:Value)(hc:c.at w m1 v1)(hd:d.at w m2 v2)(tl sl:List Int)(tv sv:Value)(ht:Aj w tv tl)(hs:Aj w sv sl)(FB:Nat->Prop)(bP:∀X,FB X->X<w.heap.size)(bM:tl≠ []->∀X,tv.ownBlock=some X->¬FB X)(bN:sl≠ []->∀X,sv.ownBlock=some X->¬FB X):
  Calls Tryz.prog 83 #[c.arg m1 v1,d.arg m2 v2,.agg #[tv,sv]] w fun r w'=>(∃e1 e2:Int,BK c.p c.m c.ml c.n c.rows e1/\(e1=0->BK d.p d.m d.ml d.n d.rows e2)/\RfF FB (Jh (Gj e1 e2 (CN c.p c.m c.ml d.p d.m d.ml) c.n d.n tl sl (c.p.toNat^c.m.toNat)) (GQ c d tl sl)) (Ji (Gj e1 e2 (CN c.p c.m c.ml d.p d.m d.ml) c.n d.n tl sl (c.p.toNat^c.m.toNat)) (GQ c d tl sl)) r w')/\Ex w w':=by
 have cG:=Aa bP;have cE:=Aa bM;have cF:=Aa bN;clear bP bM bN;obtain⟨c0,c1,c2,c3,c4⟩:=Du w c m1 v1;obtain⟨d0,d1,d2,d3,d4⟩:=Du (w.alloc (c.obj m1 v1)) d m2 v2;obtain⟨b0,b1,e3,bI⟩:=AX ((w.alloc (c.obj m1 v1)).alloc (d.obj m2 v2)) tv sv;have aR:=BxR.new (((w.alloc (c.obj m1 v1)).alloc (d.obj m2 v2)).alloc (.cells #[tv,sv] 71));have bJ:(w.alloc (c.obj m1 v1)).heap.size=w.heap.size+1:=ag;have aV:((w.alloc (c.obj m1 v1)).alloc (d.obj m2 v2)).heap.size=w.heap.size+1+1:=ag;have e1:=AI w (c.obj m1 v1);have e2:=AI (w.alloc (c.obj m1 v1)) (d.obj m2 v2);have e4:=AI (((w.alloc (c.obj m1 v1)).alloc (d.obj m2 v2)).alloc (.cells #[tv,sv] 71)) (.cells #[.slice none 0 0] 94);rw[bI,aV]at aR;rw[bJ]at d0 d1 d2 d3 d4;rw[aV]at b0 b1;have aF:=e1.trans (e2.trans (e3.trans e4));replace c0:=(e2.trans (e3.trans e4)).cell c0;replace c1:=(e2.trans (e3.trans e4)).cell c1;replace c2:=(e2.trans (e3.trans e4)).cell c2;replace c3:=(e2.trans (e3.trans e4)).cell c3;replace c4:=(e2.trans (e3.trans e4)).cell c4;replace d0:=(e3.trans e4).cell d0;replace d1:=(e3.trans e4).cell d1;replace d2:=(e3.trans e4).cell d2;replace d3:=(e3.trans e4).cell d3;replace d4:=(e3.trans e4).cell d4;replace b0:=e4.cell b0;replace b1:=e4.cell b1;obtain⟨B,hB⟩:=nA w.heap.size;rw[hB]at c0 c1 c2 c3 c4 d0 d1 d2 d3 d4 b0 b1 aR;have aT:=Aa (Ja _ c d m1 m2 v1 v2 (hc.ex aF) (hd.ex aF) tl sl tv sv (ht.ex aF) (hs.ex aF));obtain⟨ta,tc,rfl,-,t2,-⟩:=ht.open;obtain⟨sa,sc,rfl,-,s2,-⟩:=hs.open;obtain⟨x1,y1,rfl,-,z1,-⟩:=hc.g.open;obtain⟨x2,y2,rfl,-,z2,-⟩:=hd.g.open;obtain⟨x3,y3,rfl,-,z3,-⟩:=hc.m.open;obtain⟨x4,y4,rfl,-,z4,-⟩:=hd.m.open;unfold maxLen at t2 s2 z1 z2 z3 z4;obtain⟨HX,HC,HD,HT,HS,aQ,aG⟩:=OK aF hc hd ht hs aR hB;clear hc hd ht hs e1 e2 e3 e4 bJ aV bI aF aR;unfold AZ.arg at aT ⊢;go_enter Tryz.func83,Tryz.ntmps83
 unfold AZ.obj at c0 c1 c2 c3 c4 d0 d1 d2 d3 d4 b0 b1 HX aQ aT;go_upto_region 1 with fail
 try simp only[hB]
 clear hB;generalize (((w.alloc (.cells #[c.p,c.m,.slice x3 c.ml.length y3,c.n,.slice x1 c.rows.length y1] 39)).alloc (.cells #[d.p,d.m,.slice x4 d.ml.length y4,d.n,.slice x2 d.rows.length y2] 39)).alloc (.cells #[.slice ta tl.length tc,.slice sa sl.length sc] 71)).alloc (.cells #[.slice none 0 0] 94)=w1 at *;have B0:=Aa b0;have B1:=Aa b1;go_wp2_with fail
 refine aT.o.mono ?_;rintro e w3⟨ho,bK⟩;have bQ:=Aa bK;obtain⟨e1,e2,bL,aJ,ho⟩:=ho;have aH:=Aa bL;have aO:=Aa aJ;clear c0 c1 c2 c3 c4 d0 d1 d2 d3 d4 bK bL aJ aT b0 b1;obtain⟨E,hE⟩:=nA (Gj e1 e2 (CN c.p c.m c.ml d.p d.m d.ml) c.n d.n tl sl (c.p.toNat^c.m.toNat));rw[hE]at ho;have HE:=Aa hE;rcases ho with⟨h0,ptr,rfl⟩|⟨h0,w2,A,b,x0,pn,mn,nn,hp,hm,hnn,rfl,hx2,hg,hx01,hx02,hA,hx23,hpr,h11,hf11⟩
 .have hb0:(E !=0)=true:=by simpa using h0
  obtain⟨q0,bS⟩:=aQ.o.ex bQ.o;have H0:=Aa h0;clear h0 hE;go_wp2_with fail
  refine bodyPost_ret (v:= .tuple #[.agg #[.slice none 0 0],E]) b8 rfl ⟨⟨e1,e2,aH.o,aO.o,?_⟩,(HX.o.trans bQ.o).setCell (p:=⟨B+1+1+1,0,none⟩) b9 _⟩;rw[HE.o];unfold Jh Ji;rw[if_pos H0.o,if_pos H0.o];exact⟨_,rfl,Q7.nil _ _⟩
 .subst h0;obtain⟨k1,k2,k3,k4,k5,k6,k7,k8,k9⟩:=Ri hE;subst k1;have aJ:=aO.o rfl;subst k2;obtain⟨bH,bF⟩:=Ds aH.o;obtain⟨bG,bE⟩:=Ds aJ;obtain⟨-,bV,bU⟩:=Eh aH.o;obtain⟨NB,aL⟩:∃B,w3.heap.size=B:=⟨_,rfl⟩;have aN:A<NB:=by rw[<-aL];exact World.block_lt_of_cell? _ _ h11
  have aA:=HX.o.trans hx2;have e5:=AI w3 (.cells #[.slice none 0 0] 94);have n0:(w3.alloc (.cells #[.slice none 0 0] 94)).cell? (NB,0)=some (.slice none 0 0):=dp;have bD:(w3.alloc (.cells #[.slice none 0 0] 94)).frozen? (NB,0)=false:=dp;have aP:=Aa (Zj (p:=pn) (m:=mn) (n:=nn) (A:=A) (NB:=NB) (RB:=fun X=>X=B+1+1+1∨FB X) hg hx01 hx02 (HC.o.g.ex aA) (HD.o.g.ex aA) ac (fun r hr=>by have:=bF r hr;omega) (fun r hr=>by have:=bE r hr;omega) bH bG);have aK:B+1+1+1<w2.heap.size:=World.block_lt_of_cell? _ _ (aQ.o.ex hx2).c0;have bO:∀X,(X=B+1+1+1∨FB X)->X<w2.heap.size:=fun X h=>by
   rcases h with rfl|h
   .exact aK
   .have:=cG.o X h;have:=aG.o;omega
  have aC:Kz w2 A NB (fun X=>X=B+1+1+1∨FB X) b nn (.slice x1 c.rows.length y1) (.slice x2 d.rows.length y2) (0, []) (w3.alloc (.cells #[.slice none 0 0] 94)):=
   ⟨⟨hx23.trans e5,hpr.ex e5,e5.cell h11,e5.frz h11 hf11,ag,ag,hA⟩,aN,bO,⟨_, [],n0,World.ownsRow_nil _ _ _ _,rfl,fun i e mv h=>by simp[Hl]at h⟩,bD⟩
  have cC:=Aa aC;have aW:w1.heap.size<=w2.heap.size:=hx2.size;have aI:∀(v:Value) (l:List Int) (_:True),Aj w v l->∀X,0<l.length->v.ownBlock=some X->X<B:=fun v l _ h X hl hX=>by
   obtain⟨a,cap,rfl,-,-,h5⟩:=h.open;obtain⟨b',o,rfl,h6⟩:=h5 hl;injection hX with hX;have hX:b'=X:=hX;subst hX;have:=World.block_lt_of_cell? _ _ (h6 0 _ (AU hl));have h2:=aG.o;simp only at this;omega
  have aD:∀(v:Value) (l:List Int),Aj w v l->(l≠ []->∀X,v.ownBlock=some X->¬FB X)->C7 (Q9 A NB (fun X=>X=B+1+1+1∨FB X)) (w3.alloc (.cells #[.slice none 0 0] 94)) v l:=fun v l h cA=>by
   have h2:=h.ex aA;have hk:AO (fun _ X=>w2.heap.size<=X) w2 (w3.alloc (.cells #[.slice none 0 0] 94)):=⟨(hx23.trans e5).size,fun X hX hn=>⟨(hx23.trans e5).block X hX,hn⟩⟩;refine⟨(h.ex aA).ex (hx23.trans e5),fun hl X hX hd=>?_⟩;obtain⟨a,cap,rfl,-,-,h5⟩:=h2.open;obtain⟨b',o,rfl,h6⟩:=h5 (List.length_pos_iff.2 hl);injection hX with hX;have hX:b'=X:=hX;subst hX;obtain⟨x,l',rfl⟩:=List.exists_cons_of_ne_nil hl;have hlt:b'<w2.heap.size:=World.block_lt_of_cell? _ _ (h6 0 x rfl);rcases hd with hd|hd|hd|⟨ev,he1,he2⟩
   .omega
   .omega
   .rcases hd with hd|hd
    .have:=aI _ _ trivial h;have:=this b' (List.length_pos_iff.2 hl) rfl;omega
    .exact cA hl b' rfl hd
   .rw[n0]at he1;injection he1 with he1;subst he1;cases he2
  have aU:=Aa (Rm aP.o (.pointer (some ⟨NB,0,none⟩)) (fun s w' tl' sl' tv' sv' side msg mv h hl bW bX bY aX cB hml aZ=>V9 h hl bW bX bY cB aX aZ) (nn-tl.length) (0, []) _ tl sl _ _ ac ac (by rw[<-hnn];exact k7) (fun h=>absurd rfl h) aC (aD _ _ HT.o cE.o) (aD _ _ HS.o cF.o));have hR:MC pn mn c.ml c.rows d.rows nn (nn-tl.length) (0, []) tl sl=GQ c d tl sl:=by
   unfold GQ;rw[hp,hm,hnn];rfl
  rw[hR]at aU;have q:=aQ.o.ex (hx2.trans (hx23.trans e5));have bR:=Aa (aQ.o.ex hx2);have b0:=(hx2.trans (hx23.trans e5)).cell B0.o;have b1:=(hx2.trans (hx23.trans e5)).cell B1.o;have bA:=Aa aA;have HS2:=Aa (show B+1+1+1<w2.heap.size from World.block_lt_of_cell? _ _ bR.o.c0);clear bO aK aI hp hm hnn hx2 hg hx01 hx02 hA hx23 hpr h11 hf11 k3 k4 k5 k6 k7 k8 k9 aJ bH bF bG bE bV bU aN aA e5 n0 bD aC aW aD hR aP q hE;obtain⟨R,hR⟩:=nA (GQ c d tl sl);rw[hR]at aU;have cD:=Aa hR;clear hR;go_wp2_with fail
  try simp only[aL]
  generalize w3.alloc (.cells #[.slice none 0 0] 94)=w4 at *;clear aL;refine aU.o.mono ?_;rintro e w5⟨rfl,aY,bZ⟩;have aE:=Aa aY;have aS:=Aa aY.sw.ex;obtain⟨q0,bS⟩:=bR.o.ex aS.o;have bB:=Aa (show ∀r w',RfF FB (Jh 0 R) (Ji 0 R) r w'->RfF FB (Jh (Gj 0 0 (CN c.p c.m c.ml d.p d.m d.ml) c.n d.n tl sl (c.p.toNat^c.m.toNat)) (GQ c d tl sl)) (Ji (Gj 0 0 (CN c.p c.m c.ml d.p d.m d.ml) c.n d.n tl sl (c.p.toNat^c.m.toNat)) (GQ c d tl sl)) r w' from fun r w' h=>by rw[HE.o,cD.o];exact h);clear aY bZ b0 b1 aU cC;obtain⟨E2,aM⟩:∃E,R.2=E:=⟨_,rfl⟩;have bC:=Aa aM;simp only[aM];by_cases h0:E2=0
  .subst h0;obtain⟨ev,bT,n0,n1,n2,n3⟩:=aE.o.en;obtain⟨ea,ec,rfl⟩:=Ad n1;have N1:=Aa n1;have N2:=Aa n2;have N3:=Aa n3;have aB:=Aa (show Jh 0 R=Hl R.1.2/\Ji 0 R=0 from by
    unfold Jh Ji;rw[bC.o];exact⟨rfl,rfl⟩)
   clear aM n1 n2 n3;go_wp2_with fail
   refine bodyPost_ret (v:= .tuple #[.agg #[.slice ea R.1.2.length ec],(0:Int)]) b8 rfl ⟨⟨0,0,aH.o,fun _=>aO.o trivial,bB.o _ _ ?_⟩,(bA.o.trans aS.o).setCell (p:=⟨B+1+1+1,0,none⟩) b9 _⟩;rw[aB.o.1,aB.o.2];refine⟨_,rfl,bT,by rw[Fu];exact N2.o,?_,fun i e mv h1 h2=>⟨?_,fun aZ X hX hF=>(N3.o i e mv h1 h2).2 aZ X hX (.inr (.inr (.inl (.inr hF))))⟩,fun X hX hF=>?_⟩
   .rw[Fu];exact Sl.own (Ac (a:=⟨B+1+1+1,0,none⟩) N1.o (fun e=>by have:=(N1.o.lt _ e).1;have:=aE.o.ne;have:=aE.o.rb (B+1+1+1) (.inl rfl);have:=aE.o.sw.lb;simp only at *;omega) _)
   .have hp:=N3.o i e mv h1 h2
    cases hm:e.msg with
    | nil=>
     rw[hm]at hp;obtain⟨g1,a,cap,g2,g3,g4,g5⟩:=hp.1;exact⟨g1,a,cap,g2,g3,g4,fun hn=>absurd hn ag⟩
    | cons y l=>
     rw[hm]at hp;exact Sl.other hp.1 (fun X hX e2=>hp.2 ag X hX (.inr (.inr (.inl (.inl e2))))) _
   .have h1:=(N1.o.lt X hX).1;have h2:=aE.o.rb X (.inr hF);have h3:=aE.o.ne;have h4:=aE.o.sw.lb;omega
  .have k0:(E2==0)=false:=by simpa using h0
   by_cases h18:E2=18
   .subst h18;have aB:=Aa (show Jh 0 R= []/\Ji 0 R=11 from by
     unfold Jh Ji;rw[bC.o];exact⟨rfl,rfl⟩)
    clear aM h0;go_wp2_with fail
    refine bodyPost_ret (v:= .tuple #[.agg #[.slice none 0 0],(11:Int)]) b8 rfl ⟨⟨0,0,aH.o,fun _=>aO.o trivial,bB.o _ _ ?_⟩,(bA.o.trans aS.o).setCell (p:=⟨B+1+1+1,0,none⟩) b9 _⟩;rw[aB.o.1,aB.o.2];exact⟨_,rfl,Q7.nil _ _⟩
   .have k18:(E2==18)=false:=by simpa using h18
    have aB:=Aa (show Jh 0 R= []/\Ji 0 R=E2 from by
     unfold Jh Ji;rw[bC.o];simp[h18,h0])
    clear aM h18 h0;go_wp2_with fail
    refine bodyPost_ret (v:= .tuple #[.agg #[.slice none 0 0],E2]) b8 rfl ⟨⟨0,0,aH.o,fun _=>aO.o trivial,bB.o _ _ ?_⟩,(bA.o.trans aS.o).setCell (p:=⟨B+1+1+1,0,none⟩) b9 _⟩;rw[aB.o.1,aB.o.2];exact⟨_,rfl,Q7.nil _ _⟩
end Go.Proofs.YtehieobniamagaaGreat
