/- Walk of equivalence.Refute. -/
import Derived.Test.YtehieobniamagaaGreatZs14
namespace Go.Proofs.YtehieobniamagaaGreat
open Go.RowKit
set_option linter.all false
set_option maxRecDepth 100000
set_option maxHeartbeats 8000000
structure Rf where
 tp:Int
 sc:Int
 side:Int
 msg:List Int
def Rf.cells(e:Rf)(mv:Value):List Value:= [.int .i64 e.tp,.int .i64 e.sc,.int .i64 e.side,mv]
def MY:List Rf->List Value->List Value
 | e :: es,v :: vs=>e.cells v++MY es vs
 | _,_=> []
theorem NV:∀(es:List Rf) (vs:List Value),vs.length=es.length->(MY es vs).length=es.length*4
 | [], [],_=>rfl
 | [],v :: vs,h=>by simp at h
 | e :: es, [],h=>by simp at h
 | e :: es,v :: vs,h=>by
  have:=NV es vs ay;show(e.cells v++MY es vs).length=_
  rw[List.length_append,this];simp[Rf.cells];omega
theorem PC:∀(es:List Rf) (vs:List Value) (e:Rf) (v:Value),vs.length=es.length->MY (es ++ [e]) (vs ++ [v])=MY es vs++e.cells v
 | [], [],e,v,_=>by simp[MY]
 | [],u :: vs,e,v,h=>by simp at h
 | x :: es, [],e,v,h=>by simp at h
 | x :: es,u :: vs,e,v,h=>by
  show x.cells u++MY (es ++ [e]) (vs ++ [v])=x.cells u++MY es vs++e.cells v
  rw[PC es vs e v (by simpa using h),List.append_assoc]
def ndR(x:Nd):Rf:=⟨x.tl.getD (x.tl.length-1) 0,x.sc.getD (x.sc.length-1) 0,x.side,x.msg⟩
def Hc:List Nd->List Rf
 | []=> []
 | x :: t=>⟨0,0,x.side,x.msg⟩ :: t.map ndR
theorem Fp(L:List Nd):(Hc L).length=L.length:=by cases L <;> simp[Hc]
theorem MX(L:List Nd)(x:Nd):Hc (L ++ [x])=Hc L ++ [if L= [] then⟨0,0,x.side,x.msg⟩ else ndR x]:=by
 cases L with
 | nil=>simp[Hc]
 | cons y t=>simp[Hc]
def O9(w:World)(v:Value)(es:List Rf):Prop:=∃mvs:List Value,mvs.length=es.length/\Sl w v es.length 4 (MY es mvs)/\∀(i:Nat) (e:Rf) (mv:Value),es[i]?=some e->mvs[i]?=some mv->Al w mv e.msg
theorem O9.ex{w w':World}{v:Value}{es:List Rf}(h:O9 w v es)(hx:Ex w w'):O9 w' v es:=by
 obtain⟨m,h1,h2,h3⟩:=h;exact⟨m,h1,h2.ex hx,fun i e mv a b=>(h3 i e mv a b).ex hx⟩
theorem O9.nil(w:World):O9 w (.slice none 0 0) []:=⟨[],rfl,Sl.nil w 4,fun i e mv h=>by simp at h⟩
theorem RV:(Tryz.prog.info? 176).map (fun i=>(i.zero,i.size,i.bytes))=some (some (.agg #[(0:Int),(0:Int),(0:Int),.slice none 0 0]),4,48):=ah
def Q7(A NB:Nat)(RB:Nat->Prop):World->Nat->Prop:=fun w X=>X=A∨X=NB∨RB X∨∃ev,w.cell? (NB,0)=some ev/\ev.ownBlock=some X
structure Kq(w2:World)(A NB:Nat)(RB:Nat->Prop)(b n:Nat)(v1 v2:Value)(s:Nat × List Nd)(w:World):Prop where
 sw:So w2 A b n v1 v2 s w
 ne:A<NB
 rb:∀X,RB X->X<w2.heap.size
 en:∃ev mvs,w.cell? (NB,0)=some ev/\w.ownsRow (NB+1) 176 4 ev s.2.length (MY (Hc s.2) mvs)/\mvs.length=s.2.length/\∀(i:Nat) (e:Rf) (mv:Value),(Hc s.2)[i]?=some e->mvs[i]?=some mv->C6 (Q7 A NB RB) w mv e.msg
 f0:w.frozen? (NB,0)=false
section
variable {w2 w w':World} {A NB b n:Nat} {RB:Nat->Prop} {v1 v2:Value} {s:Nat × List Nd}
theorem Kq.dm(h:Kq w2 A NB RB b n v1 v2 s w)(hx:Ex w w'){X:Nat}(hd:Q7 A NB RB w' X):Q7 A NB RB w X:=by
 rcases hd with hd|hd|hd|⟨ev,h1,h2⟩
 .exact .inl hd
 .exact .inr (.inl hd)
 .exact .inr (.inr (.inl hd))
 .obtain⟨ev',m,h3,-⟩:=h.en;rw[hx.cell h3]at h1;injection h1 with h1;subst h1;exact .inr (.inr (.inr ⟨_,h3,h2⟩))
theorem Kq.keeps(h:Kq w2 A NB RB b n v1 v2 s w)(hx:Ex w w'):AO (Q7 A NB RB) w w':=
 ⟨hx.size,fun B hB hn=>⟨hx.block B hB,fun hd=>hn (h.dm hx hd)⟩⟩
theorem Kq.stt:Vg (Kq w2 A NB RB b n v1 v2) (Q7 A NB RB) where
 ex:=fun s w w' h hx=>by
  obtain⟨ev,mvs,h1,h2,h3,h4⟩:=h.en;exact⟨h.sw.later hx,h.ne,h.rb,⟨ev,mvs,hx.cell h1,Aj h2 hx,h3,fun i e mv a b=>(h4 i e mv a b).keep (h.keeps hx)⟩,hx.frz h1 h.f0⟩
 lt:=fun s w B h hd=>by
  obtain⟨ev,mvs,h1,h2,-⟩:=h.en;rcases hd with rfl|rfl|hd|⟨ev',h3,h4⟩
  .exact World.block_lt_of_cell? _ _ h.sw.c11
  .exact World.block_lt_of_cell? _ _ h1
  .exact Nat.lt_of_lt_of_le (h.rb B hd) h.sw.ex.size
  .rw[h1]at h3;injection h3 with h3;subst h3;exact(h2.lt B h4).2
 dx:=fun s w w' B h hx hd=>h.dm hx hd
theorem Kq.seen(h:Kq w2 A NB RB b n v1 v2 s w)(hs:s.1<65536):Kq w2 A NB RB b n v1 v2 (s.1+1,s.2) (w.setCell (A,11) (.int .i64 ((s.1:Int)+1)))/\AO (Q7 A NB RB) w (w.setCell (A,11) (.int .i64 ((s.1:Int)+1))):=by
 have aC:A≠NB:=by have:=h.ne;omega
 have aA:∀u:Value,(w.setCell (A,11) u).cell? (NB,0)=w.cell? (NB,0):=fun u=>Ah aC;have hk:AO (Q7 A NB RB) w (w.setCell (A,11) (.int .i64 ((s.1:Int)+1))):=Fz (.inl rfl) fun X hd=>by
  rcases hd with hd|hd|hd|⟨ev,h1,h2⟩
  .exact .inl hd
  .exact .inr (.inl hd)
  .exact .inr (.inr (.inl hd))
  .rw[aA]at h1;exact .inr (.inr (.inr ⟨ev,h1,h2⟩))
 obtain⟨ev,aB,h1,h2,h3,h4⟩:=h.en;refine⟨⟨h.sw.seen hs,h.ne,h.rb,⟨ev,aB,by rw[aA];exact h1,Ac (a:=⟨A,11,none⟩) h2 (fun e=>?_) _,h3,fun i e mv a b=>(h4 i e mv a b).keep hk⟩,by rw[Ax];exact h.f0⟩,hk⟩;have:=(h2.lt A e).1;have:=h.ne;omega
theorem Kq.app(h:Kq w2 A NB RB b n v1 v2 s w)(hl:s.2.length<s.1){ev:Value}{x:Nd}{mv v':Value}{aC:List Value}(hc:w.cell? (NB,0)=some ev)(h2:w.ownsRow (NB+1) 176 4 ev s.2.length (MY (Hc s.2) aC))(h3:aC.length=s.2.length)(h4:∀(i:Nat) (e:Rf) (mv:Value),(Hc s.2)[i]?=some e->aC[i]?=some mv->C6 (Q7 A NB RB) w mv e.msg)(hm:C6 (Q7 A NB RB) w mv x.msg)
  (ha:Bv w w' (NB+1) 176 4 ev v' s.2.length (MY (Hc s.2) aC) ((if s.2= [] then(⟨0,0,x.side,x.msg⟩:Rf) else ndR x).cells mv)) (hb:w2.heap.size<=A):
  Kq w2 A NB RB b n v1 v2 (s.1,s.2 ++ [x]) (w'.setCell (NB,0) v')/\AO (Q7 A NB RB) w (w'.setCell (NB,0) v'):=by
 have aF:some NB≠ev.ownBlock:=fun e=>by have:=(h2.lt NB e.symm).1;omega
 have aD:some A≠ev.ownBlock:=fun e=>by have:=(h2.lt A e.symm).1;have:=h.ne;omega
 have aG:=ha.cell hc aF;have hlt:NB<w.heap.size:=World.block_lt_of_cell? _ _ hc;have aE:v'.ownBlock≠some NB:=fun e=>by
  rcases ha.at_ with h5|h5
  .rw[h5]at e;exact aF e.symm
  .rw[h5]at e;injection e with e;omega
 have aA:AO (Q7 A NB RB) w (w'.setCell (NB,0) v'):=by
  obtain⟨o,hg⟩:=ha.gr;refine⟨by rw[Dc];exact Nat.le_of_lt ha.grow,fun B hB hn=>⟨?_,?_⟩⟩
  .have aJ:B≠NB:=fun e=>hn (.inr (.inl e));have h5:(w'.setCell (NB,0) v').heap[B]?=w'.heap[B]?:=Below.heap_setCell w' ⟨NB,0,none⟩ v' B aJ;rw[h5,hg.block B aq (fun e=>hn (.inr (.inr (.inr ⟨ev,hc,e.symm⟩))))];show(w.heap.push o)[B]?=_
   exact Array.getElem?_push_lt hB ▸ (by simp[hB])
  .rintro (hd|hd|hd|⟨ev2,h5,h6⟩)
   .exact hn (.inl hd)
   .exact hn (.inr (.inl hd))
   .exact hn (.inr (.inr (.inl hd)))
   .rw[World.cell?_setCell_same _ _ _ aG]at h5;injection h5 with h5;subst h5;rcases ha.at_ with h7|h7
    .rw[h7]at h6;exact hn (.inr (.inr (.inr ⟨ev,hc,h6⟩)))
    .rw[h7]at h6;injection h6 with h6;omega
 refine⟨⟨?_,h.ne,h.rb,⟨v',aC ++ [mv],World.cell?_setCell_same _ _ _ aG,?_,by simp[h3],fun i e u hi hu=>?_⟩,by rw[Ax];exact ha.frz hc h.f0 aF⟩,aA⟩
 .have aH:Ex w2 w':=ha.ex h.sw.ex (by have:=h.ne;omega);have aI:So w2 A b n v1 v2 s w':=⟨aH,⟨ha.cell h.sw.pr.c0 aD,ha.cell h.sw.pr.c4 aD,ha.cell h.sw.pr.c5 aD,ha.cell h.sw.pr.c10 aD⟩,ha.cell h.sw.c11 aD,ha.frz h.sw.c11 h.sw.f11 aD,h.sw.l1,h.sw.l2,h.sw.lb⟩;exact(aI.other (by have:=h.ne;omega) (by have:=h.ne;omega) v').note hl x
 .have h5:=Ac (a:=⟨NB,0,none⟩) ha.own aE v';show(w'.setCell (NB,0) v').ownsRow _ _ _ _ (s.2 ++ [x]).length (MY (Hc (s.2 ++ [x])) (aC ++ [mv]))
  rw[List.length_append,MX,PC _ _ _ _ (by rw[h3,Fp])];exact h5
 .have aB:(Hc (s.2 ++ [x]))[i]?=some e:=hi;rw[MX]at aB;by_cases hil:i<s.2.length
  .rw[List.getElem?_append_left (by rw[Fp];exact hil)]at aB;rw[List.getElem?_append_left (by rw[h3];exact hil)]at hu;exact(h4 i e u aB hu).keep aA
  .rw[List.getElem?_append_right (by rw[Fp];omega)]at aB;rw[List.getElem?_append_right (by rw[h3];omega)]at hu;rw[Fp]at aB;rw[h3]at hu;have h0:i-s.2.length=0:=by
    have:=(List.getElem?_eq_some_iff.1 aB).1;simp at this;omega
   rw[h0]at aB hu;simp at aB hu;subst hu;have:e.msg=x.msg:=by rw[<-aB];split <;> rfl
   rw[this];exact hm.keep aA
theorem VN(h:Kq w2 A NB RB b n v1 v2 s w)(hl:s.2.length<s.1){tl sl msg:List Int}{side:Int}{tv sv mv:Value}(ht:C6 (Q7 A NB RB) w tv tl)(hs:C6 (Q7 A NB RB) w sv sl)(hm:C6 (Q7 A NB RB) w mv msg)(h64:tl.length<=64)(bA:sl.length=tl.length)(aC:s.2≠ []->tl≠ []):
  Calls Tryz.prog 143 #[.agg #[tv,sv],side,mv,.pointer (some (NB,0))] w fun r w'=>(∃t,r= .returned t)/\Kq w2 A NB RB b n v1 v2 (s.1,s.2 ++ [⟨tl,sl,side,msg⟩]) w'/\AO (Q7 A NB RB) w w':=by
 obtain⟨b0,b1,e1,aE⟩:=AX w tv sv;have e2:=AI (w.alloc (.cells #[tv,sv] 71)) (.cells #[(0:Int),(0:Int),side,mv] 176);have x0:((w.alloc (.cells #[tv,sv] 71)).alloc (.cells #[(0:Int),(0:Int),side,mv] 176)).cell? (w.heap.size+1,0)=some (.int .i64 0):=cd;have x1:((w.alloc (.cells #[tv,sv] 71)).alloc (.cells #[(0:Int),(0:Int),side,mv] 176)).cell? (w.heap.size+1,1)=some (.int .i64 0):=cd;have x2:((w.alloc (.cells #[tv,sv] 71)).alloc (.cells #[(0:Int),(0:Int),side,mv] 176)).cell? (w.heap.size+1,2)=some (.int .i64 side):=cd;have x3:((w.alloc (.cells #[tv,sv] 71)).alloc (.cells #[(0:Int),(0:Int),side,mv] 176)).cell? (w.heap.size+1,3)=some mv:=cd;have aO:((w.alloc (.cells #[tv,sv] 71)).alloc (.cells #[(0:Int),(0:Int),side,mv] 176)).frozen? (w.heap.size+1,0)=false:=cd;have aN:((w.alloc (.cells #[tv,sv] 71)).alloc (.cells #[(0:Int),(0:Int),side,mv] 176)).frozen? (w.heap.size+1,1)=false:=cd;replace b0:=e2.cell b0;replace b1:=e2.cell b1;have hx:=e1.trans e2;obtain⟨ev,mvs,c0,ho,bG,-⟩:=(Kq.stt.ex _ _ _ h hx).en;obtain⟨ea,ec,rfl⟩:=Ae ho;have aV:w.cell? (NB,0)=some (.slice ea s.2.length ec):=by
  obtain⟨bB,_,h1,_⟩:=h.en;rw[hx.cell h1]at c0;rw[h1];exact c0
 obtain⟨ta,tc,rfl,-,t2,t3⟩:=ht.1.open;obtain⟨sa,sc,rfl,-,s2,s3⟩:=hs.1.open;obtain⟨ma,mc,rfl,-,m2,-⟩:=hm.1.open;unfold maxLen at t2 s2 m2;have aU:NB<w.heap.size:=World.block_lt_of_cell? _ _ aV;obtain⟨HH,HT,HS,HM,HX,bE,bN,bD,T3,S3,bK⟩:=Ha0 h ht hs hm hx aV h.sw.l2 h.sw.lb t3 s3 bA;obtain⟨B,hB⟩:=nA w.heap.size;rw[hB]at b0 b1 x0 x1 x2 x3 aO aN aU;have aI:=Aa hB;have HOO:=Aa ho;have aX:=Aa hl;obtain⟨N,hN⟩:=nA s.2.length;have HN:=Aa hN;rw[hN]at c0 bE;clear h ht hs hm hx e1 e2 aE aV t3 s3 bA ho bG hl;go_enter Tryz.func143,Tryz.ntmps143
 go_upto_region 2 with fail
 try simp only[hB]
 clear hB hN;generalize (w.alloc (.cells #[.slice ta tl.length tc,.slice sa sl.length sc] 71)).alloc (.cells #[(0:Int),(0:Int),side,.slice ma msg.length mc] 176)=w3 at *;have aW:=Aa (Kq.stt.ex _ _ _ HH.o HX.o);have bF:NB+1<=w3.heap.size:=by have:=HX.o.size;have:=aI.o;omega
 have bI:=Aa bF;have hN16:N<=65536:=by have:=bN.o;have:=aX.o;have:=HN.o;omega
 by_cases h0:N=0
 .subst h0;have bL:=Aa (List.length_eq_zero_iff.1 HN.o);obtain⟨bB,aP,g1,g2,g3,g4⟩:=aW.o.en;rw[c0]at g1;injection g1 with g1;subst g1;have G2:=Aa g2;have G3:=Aa g3;have G4:=Aa g4;rw[HN.o]at g2;have aJ:=Aa g2;have f0:=aW.o.f0;have hdm:((0:Nat):Int)=0:=rfl;clear g2 g3 g4;go_wp2_with (at_builtin;refine Am _ rfl _ _ 92 rfl (NB+1) 176 (.agg #[(0:Int),(0:Int),(0:Int),.slice none 0 0]) 4 48 Tryz.underlying92 RV rfl ae _ 0 _ rfl aJ.o [.int .i64 0,.int .i64 0,.int .i64 side,.slice ma msg.length mc] 176 _ rfl ag rfl aj ai ac bI.o ?_)
  intro v6 w6 aA;have HAP:=Aa aA;have aC:some NB≠Value.ownBlock (.slice ea 0 ec):=fun e=>by have:=(aJ.o.lt NB e.symm).1;omega
  have c6:=aA.cell c0 aC;have f6:=aA.frz c0 f0 aC;have aB:=Aa (aW.o.app (x:=⟨tl,sl,side,msg⟩) (mv:= .slice ma msg.length mc) (v':=v6) (ev:= .slice ea 0 ec) aX.o c0 G2.o G3.o G4.o (HM.o.keep (Kq.keeps HH.o HX.o)) (by rw[HN.o,if_pos bL.o];exact aA) bD.o);obtain⟨va,vc,hv⟩:=Ae aA.own;subst hv;clear aA c0 f0 aC b0 b1 x0 x1 x2 x3 aO aN;go_wp2_with fail
  go_end0
  exact⟨⟨_,rfl⟩,aB.o.1,(Kq.keeps HH.o HX.o).trans aB.o.2⟩
 .have aG:s.2≠ []:=fun e=>h0 (by rw[<-HN.o,e];rfl);have bH:=Aa (aC aG);have bJ:=Aa aG;have hk:0<tl.length:=List.length_pos_iff.2 bH.o;obtain⟨k,aM⟩:∃k,tl.length=k+1:=⟨tl.length-1,ac⟩;have aT:sl.length=k+1:=by rw[bK.o,aM]
  obtain⟨tb,aD,rfl,aQ⟩:=T3.o hk;obtain⟨sb,so,rfl,aS⟩:=S3.o ac;obtain⟨X,hX⟩:∃x,tl.getD k 0=x:=⟨_,rfl⟩;obtain⟨Y,hY⟩:∃x,sl.getD k 0=x:=⟨_,rfl⟩;have hTB:tb<B:=by have:=World.block_lt_of_cell? _ _ (aQ k _ (AS (l:=tl) (i:=k) ac));have h2:=aI.o;simp only at this;omega
  have hSB:sb<B:=by have:=World.block_lt_of_cell? _ _ (aS k _ (AS (l:=sl) (i:=k) ac));have h2:=aI.o;simp only at this;omega
  have cX:=HX.o.cell (aQ k X (by rw[<-hX];exact AS ac));have cY:=HX.o.cell (aS k Y (by rw[<-hY];exact AS ac));have bM:=Aa (show ndR ⟨tl,sl,side,msg⟩=⟨X,Y,side,msg⟩ from by
   unfold ndR;simp only[aM,aT,Nat.add_sub_cancel];rw[hX,hY])
  rw[aM]at b0;rw[aT]at b1;have i1:(0:Int)<=(k:Int):=ac;have i2:(k:Int)<((k+1:Nat):Int):=ac;have i4:(k:Int)<(k:Int)+1:=ac;have bP:=Aa (show wrap64 (k:Int)=(k:Int) from w64 ac ac);have bO:=Aa (show IntKind.i64.wrap (k:Int)=(k:Int) from IntWalk.i64_in _ ac);have hb0:decide ((N:Int) > 0)=true:=aq;have hb0':decide ((0:Int)<(N:Int))=true:=aq;have hb0'':decide (0<N)=true:=aq;clear hX hY aQ aS hk aC aG aM aT t2 s2;have aZ:=Aa (show w3.cell? (B,0)=some (.slice (some (tb,aD)) (k+1) tc)/\w3.cell? (B,1)=some (.slice (some (sb,so)) (k+1) sc)/\w3.cell? (tb,aD+k)=some (.int .i64 X)/\w3.cell? (sb,so+k)=some (.int .i64 Y) from⟨b0,b1,cX,cY⟩);have HTS:=Aa (show tb≠B+1/\sb≠B+1/\NB≠B+1 from⟨ac,ac,ac⟩);go_wp2_with fail
  have aY:=Aa (fun (w':World) (j:Nat) (u:Value) (h:w'.cell? (B,0)=some (.slice (some (tb,aD)) (k+1) tc)/\w'.cell? (B,1)=some (.slice (some (sb,so)) (k+1) sc)/\w'.cell? (tb,aD+k)=some (.int .i64 X)/\w'.cell? (sb,so+k)=some (.int .i64 Y))=>(⟨by rw[Ah (show B+1≠B by omega)];exact h.1,by rw[Ah (show B+1≠B by omega)];exact h.2.1,by rw[Ah (show B+1≠tb by omega)];exact h.2.2.1,by rw[Ah (show B+1≠sb by omega)];exact h.2.2.2⟩:(w'.setCell (B+1,j) u).cell? (B,0)=some (.slice (some (tb,aD)) (k+1) tc)/\(w'.setCell (B+1,j) u).cell? (B,1)=some (.slice (some (sb,so)) (k+1) sc)/\(w'.setCell (B+1,j) u).cell? (tb,aD+k)=some (.int .i64 X)/\(w'.setCell (B+1,j) u).cell? (sb,so+k)=some (.int .i64 Y)));have i6:=bP.o;have i7:=bO.o
  go_region_held3 (fun w'=>w'.cell? (B,0)=some (.slice (some (tb,aD)) (k+1) tc)/\w'.cell? (B,1)=some (.slice (some (sb,so)) (k+1) sc)/\w'.cell? (tb,aD+k)=some (.int .i64 X)/\w'.cell? (sb,so+k)=some (.int .i64 Y))
   (first|exact aZ.o|exact aY.o _ _ _ aZ.o|exact aY.o _ _ _ (aY.o _ _ _ aZ.o)) (fail)
  clear i6 i7;obtain⟨w5,aF⟩:=nA (((w3.setCell (B+1,0) (.int .i64 X)).setCell (B+1,1) (.int .i64 Y)).drew);have aK:Ex w w5:=by
   rw[<-aF];exact((HX.o.setCell (p:=⟨B+1,0,none⟩) (by show w.heap.size<=B+1;have:=aI.o;omega) _).setCell (p:=⟨B+1,1,none⟩) (by show w.heap.size<=B+1;have:=aI.o;omega) _).drew
  have z0:w5.cell? (B+1,0)=some (.int .i64 X):=by
   rw[<-aF];show World.cell? ((w3.setCell _ _).setCell _ _) _=_;rw[Ag ae];exact World.cell?_setCell_same _ _ _ x0
  have z1:w5.cell? (B+1,1)=some (.int .i64 Y):=by
   rw[<-aF];show World.cell? ((w3.setCell _ _).setCell _ _) _=_;exact World.cell?_setCell_same _ _ _ (by rw[Ag ae];exact x1)
  have z2:w5.cell? (B+1,2)=some (.int .i64 side):=by
   rw[<-aF];show World.cell? ((w3.setCell _ _).setCell _ _) _=_;rw[Ag ae,Ag ae];exact x2
  have z3:w5.cell? (B+1,3)=some (.slice ma msg.length mc):=by
   rw[<-aF];show World.cell? ((w3.setCell _ _).setCell _ _) _=_;rw[Ag ae,Ag ae];exact x3
  have aH:=Aa (Kq.stt.ex _ _ _ HH.o aK);have bC:=Aa aK;have c5:=aK.cell bE.o;obtain⟨bB,aP,g1,g2,g3,g4⟩:=aH.o.en;rw[c5]at g1;injection g1 with g1;subst g1;have G2:=Aa g2;have G3:=Aa g3;have G4:=Aa g4;rw[HN.o]at g2;have aJ:=Aa g2;have f5:=aH.o.f0;have aR:NB+1<=w5.heap.size:=by have:=aK.size;have:=aI.o;omega
  have aL:=Aa aR;clear g2 g3 g4 c0 x0 x1 x2 x3 aO aN b0 b1 cX cY aK;go_wp2_with (first|(simp only[aF];clear aF;at_builtin;refine Am _ rfl _ _ 92 rfl (NB+1) 176 (.agg #[(0:Int),(0:Int),(0:Int),.slice none 0 0]) 4 48 Tryz.underlying92 RV rfl ae _ N _ rfl aJ.o [.int .i64 X,.int .i64 Y,.int .i64 side,.slice ma msg.length mc] 176 _ rfl ag rfl aj ai ac aL.o ?_)|(at_builtin;refine Am _ rfl _ _ 92 rfl (NB+1) 176 (.agg #[(0:Int),(0:Int),(0:Int),.slice none 0 0]) 4 48 Tryz.underlying92 RV rfl ae _ N _ rfl aJ.o [.int .i64 X,.int .i64 Y,.int .i64 side,.slice ma msg.length mc] 176 _ rfl ag rfl aj ai ac aL.o ?_))
  intro v6 w6 aA;have aC:some NB≠Value.ownBlock (.slice ea N ec):=fun e=>by have:=(aJ.o.lt NB e.symm).1;omega
  have c6:=aA.cell c5 aC;have f6:=aA.frz c5 f5 aC;have aB:=Aa (aH.o.app (x:=⟨tl,sl,side,msg⟩) (mv:= .slice ma msg.length mc) (v':=v6) (ev:= .slice ea N ec) aX.o c5 G2.o G3.o G4.o (HM.o.keep (Kq.keeps HH.o bC.o)) (by rw[HN.o,if_neg bJ.o,bM.o];exact aA) bD.o);obtain⟨va,vc,hv⟩:=Ae aA.own;subst hv;clear aA c5 f5 aC z0 z1 z2 z3;go_wp2_with fail
  go_end0
  exact⟨⟨_,rfl⟩,aB.o.1,(Kq.keeps HH.o bC.o).trans aB.o.2⟩
end
structure BxR(w:World)(b:Nat):Prop where
 c0:w.cell? (b,0)=some (.slice none 0 0)
 f0:w.frozen? (b,0)=false
theorem BxR.new(w:World):BxR (w.alloc (.cells #[.slice none 0 0] 94)) w.heap.size:=⟨ag,ag⟩
theorem BxR.ex{w w':World}{b:Nat}(h:BxR w b)(hx:Ex w w'):BxR w' b:=⟨hx.cell h.c0,hx.frz h.c0 h.f0⟩
def Q5(FB:Nat->Prop)(w:World)(v:Value)(es:List Rf):Prop:=∃mvs:List Value,mvs.length=es.length/\Sl w v es.length 4 (MY es mvs)/\(∀(i:Nat) (e:Rf) (mv:Value),es[i]?=some e->mvs[i]?=some mv->Al w mv e.msg/\(e.msg≠ []->∀X,mv.ownBlock=some X->¬FB X))/\∀X,v.ownBlock=some X->¬FB X
theorem Q5.nil(FB:Nat->Prop)(w:World):Q5 FB w (.slice none 0 0) []:=⟨[],rfl,Sl.nil w 4,fun i e mv h=>by simp at h,fun X h=>by cases h⟩
def RfF(FB:Nat->Prop)(es:List Rf)(e:Int)(r:Ending)(w':World):Prop:=∃ev,r= .returned (.tuple #[.agg #[ev],e])/\Q5 FB w' ev es
def Jb(E:Int)(R:(Nat × List Nd) × Int):Int:=if E≠0 then E else if R.2=0 then 0 else if R.2=18 then 11 else R.2
def Ja(E:Int)(R:(Nat × List Nd) × Int):List Rf:=if E≠0 then [] else if R.2=0 then Hc R.1.2 else []
theorem YP{w2:World}{p m n A NB b x0:Nat}{RB:Nat->Prop}{ml:List Int}{l1 l2:List (List Int)}{v1 v2:Value}(hg:Bh w2 b p m ml x0)(x1:1<=x0)(x2:x0<p^m)(h1:BZ w2 v1 l1)(h2:BZ w2 v2 l2)(hn:n<=64)(r1:∀r∈l1,r.length=n)(r2:∀r∈l2,r.length=n)(k1:l1.length<=256)(k2:l2.length<=256):
  SrE p m ml l1 l2 n A b x0 v1 v2 (Kq w2 A NB RB b n v1 v2) (Q7 A NB RB) where
 stt:=Kq.stt
 pr:=fun s w h=>h.sw.pr
 gf:=fun s w h=>hg.ex h.sw.ex
 m1:=fun s w h=>h1.ex h.sw.ex
 m2:=fun s w h=>h2.ex h.sw.ex
 c11:=fun s w h=>⟨h.sw.c11,h.sw.f11⟩
 le:=fun s w h=>⟨h.sw.l1,h.sw.l2⟩
 seen:=fun s w h hs=>h.seen hs
 x1:=x1
 x2:=x2
 n64:=hn
 r1:=r1
 r2:=r2
 k1:=k1
 k2:=k2
theorem bw{P:Prop}(h:P:=by simp[results,Tryz.results83,go_sem,q0]):P:=h
theorem bz{P:Prop}(h:P:=by rw[aG.o];show B<=B+1+1+1;omega):P:=h
theorem Q4(w:World)(c d:AT)(m1 m2 v1 v2:Value)(hc:c.at w m1 v1)(hd:d.at w m2 v2)(tl sl:List Int)(tv sv:Value)(ht:Al w tv tl)(hs:Al w sv sl)(FB:Nat->Prop)(bP:∀X,FB X->X<w.heap.size)(bM:tl≠ []->∀X,tv.ownBlock=some X->¬FB X)(bN:sl≠ []->∀X,sv.ownBlock=some X->¬FB X):
  Calls Tryz.prog 83 #[c.arg m1 v1,d.arg m2 v2,.agg #[tv,sv]] w fun r w'=>(∃e1 e2:Int,BI c.p c.m c.ml c.n c.rows e1/\(e1=0->BI d.p d.m d.ml d.n d.rows e2)/\RfF FB (Ja (Gd e1 e2 (CA c.p c.m c.ml d.p d.m d.ml) c.n d.n tl sl (c.p.toNat^c.m.toNat)) (GN c d tl sl)) (Jb (Gd e1 e2 (CA c.p c.m c.ml d.p d.m d.ml) c.n d.n tl sl (c.p.toNat^c.m.toNat)) (GN c d tl sl)) r w')/\Ex w w':=by
 have cG:=Aa bP;have cE:=Aa bM;have cF:=Aa bN;clear bP bM bN;obtain⟨c0,c1,c2,c3,c4⟩:=CY w c m1 v1;obtain⟨d0,d1,d2,d3,d4⟩:=CY (w.alloc (c.obj m1 v1)) d m2 v2;obtain⟨b0,b1,e3,bI⟩:=AX ((w.alloc (c.obj m1 v1)).alloc (d.obj m2 v2)) tv sv;have aR:=BxR.new (((w.alloc (c.obj m1 v1)).alloc (d.obj m2 v2)).alloc (.cells #[tv,sv] 71));have bJ:(w.alloc (c.obj m1 v1)).heap.size=w.heap.size+1:=ag;have aV:((w.alloc (c.obj m1 v1)).alloc (d.obj m2 v2)).heap.size=w.heap.size+1+1:=ag;have e1:=AI w (c.obj m1 v1);have e2:=AI (w.alloc (c.obj m1 v1)) (d.obj m2 v2);have e4:=AI (((w.alloc (c.obj m1 v1)).alloc (d.obj m2 v2)).alloc (.cells #[tv,sv] 71)) (.cells #[.slice none 0 0] 94);rw[bI,aV]at aR;rw[bJ]at d0 d1 d2 d3 d4;rw[aV]at b0 b1;have aF:=e1.trans (e2.trans (e3.trans e4));replace c0:=(e2.trans (e3.trans e4)).cell c0;replace c1:=(e2.trans (e3.trans e4)).cell c1;replace c2:=(e2.trans (e3.trans e4)).cell c2;replace c3:=(e2.trans (e3.trans e4)).cell c3;replace c4:=(e2.trans (e3.trans e4)).cell c4;replace d0:=(e3.trans e4).cell d0;replace d1:=(e3.trans e4).cell d1;replace d2:=(e3.trans e4).cell d2;replace d3:=(e3.trans e4).cell d3;replace d4:=(e3.trans e4).cell d4;replace b0:=e4.cell b0;replace b1:=e4.cell b1;obtain⟨B,hB⟩:=nA w.heap.size;rw[hB]at c0 c1 c2 c3 c4 d0 d1 d2 d3 d4 b0 b1 aR;have aT:=Aa (I3 _ c d m1 m2 v1 v2 (hc.ex aF) (hd.ex aF) tl sl tv sv (ht.ex aF) (hs.ex aF));obtain⟨ta,tc,rfl,-,t2,-⟩:=ht.open;obtain⟨sa,sc,rfl,-,s2,-⟩:=hs.open;obtain⟨x1,y1,rfl,-,z1,-⟩:=hc.g.open;obtain⟨x2,y2,rfl,-,z2,-⟩:=hd.g.open;obtain⟨x3,y3,rfl,-,z3,-⟩:=hc.m.open;obtain⟨x4,y4,rfl,-,z4,-⟩:=hd.m.open;unfold maxLen at t2 s2 z1 z2 z3 z4;obtain⟨HX,HC,HD,HT,HS,aQ,aG⟩:=OK aF hc hd ht hs aR hB;clear hc hd ht hs e1 e2 e3 e4 bJ aV bI aF aR;unfold AT.arg at aT ⊢;go_enter Tryz.func83,Tryz.ntmps83
 unfold AT.obj at c0 c1 c2 c3 c4 d0 d1 d2 d3 d4 b0 b1 HX aQ aT;go_upto_region 1 with fail
 try simp only[hB]
 clear hB;generalize (((w.alloc (.cells #[c.p,c.m,.slice x3 c.ml.length y3,c.n,.slice x1 c.rows.length y1] 39)).alloc (.cells #[d.p,d.m,.slice x4 d.ml.length y4,d.n,.slice x2 d.rows.length y2] 39)).alloc (.cells #[.slice ta tl.length tc,.slice sa sl.length sc] 71)).alloc (.cells #[.slice none 0 0] 94)=w1 at *;have B0:=Aa b0;have B1:=Aa b1;go_wp2_with fail
 refine aT.o.mono ?_;rintro e w3⟨ho,bK⟩;have bQ:=Aa bK;obtain⟨e1,e2,bL,aJ,ho⟩:=ho;have aH:=Aa bL;have aO:=Aa aJ;clear c0 c1 c2 c3 c4 d0 d1 d2 d3 d4 bK bL aJ aT b0 b1;obtain⟨E,hE⟩:=nA (Gd e1 e2 (CA c.p c.m c.ml d.p d.m d.ml) c.n d.n tl sl (c.p.toNat^c.m.toNat));rw[hE]at ho;have HE:=Aa hE;rcases ho with⟨h0,ptr,rfl⟩|⟨h0,w2,A,b,x0,pn,mn,nn,hp,hm,hnn,rfl,hx2,hg,hx01,hx02,hA,hx23,hpr,h11,hf11⟩
 .have hb0:(E !=0)=true:=by simpa using h0
  obtain⟨q0,bS⟩:=aQ.o.ex bQ.o;have H0:=Aa h0;clear h0 hE;go_wp2_with fail
  refine bodyPost_ret (v:= .tuple #[.agg #[.slice none 0 0],E]) bw rfl ⟨⟨e1,e2,aH.o,aO.o,?_⟩,(HX.o.trans bQ.o).setCell (p:=⟨B+1+1+1,0,none⟩) bz _⟩;rw[HE.o];unfold Ja Jb;rw[if_pos H0.o,if_pos H0.o];exact⟨_,rfl,Q5.nil _ _⟩
 .subst h0;obtain⟨k1,k2,k3,k4,k5,k6,k7,k8,k9⟩:=Rd hE;subst k1;have aJ:=aO.o rfl;subst k2;obtain⟨bH,bF⟩:=Ds aH.o;obtain⟨bG,bE⟩:=Ds aJ;obtain⟨-,bV,bU⟩:=EI aH.o;obtain⟨NB,aL⟩:∃B,w3.heap.size=B:=⟨_,rfl⟩;have aN:A<NB:=by rw[<-aL];exact World.block_lt_of_cell? _ _ h11
  have aA:=HX.o.trans hx2;have e5:=AI w3 (.cells #[.slice none 0 0] 94);have n0:(w3.alloc (.cells #[.slice none 0 0] 94)).cell? (NB,0)=some (.slice none 0 0):=dl;have bD:(w3.alloc (.cells #[.slice none 0 0] 94)).frozen? (NB,0)=false:=dl;have aP:=Aa (YP (p:=pn) (m:=mn) (n:=nn) (A:=A) (NB:=NB) (RB:=fun X=>X=B+1+1+1∨FB X) hg hx01 hx02 (HC.o.g.ex aA) (HD.o.g.ex aA) ac (fun r hr=>by have:=bF r hr;omega) (fun r hr=>by have:=bE r hr;omega) bH bG);have aK:B+1+1+1<w2.heap.size:=World.block_lt_of_cell? _ _ (aQ.o.ex hx2).c0;have bO:∀X,(X=B+1+1+1∨FB X)->X<w2.heap.size:=fun X h=>by
   rcases h with rfl|h
   .exact aK
   .have:=cG.o X h;have:=aG.o;omega
  have aC:Kq w2 A NB (fun X=>X=B+1+1+1∨FB X) b nn (.slice x1 c.rows.length y1) (.slice x2 d.rows.length y2) (0, []) (w3.alloc (.cells #[.slice none 0 0] 94)):=
   ⟨⟨hx23.trans e5,hpr.ex e5,e5.cell h11,e5.frz h11 hf11,ag,ag,hA⟩,aN,bO,⟨_, [],n0,World.ownsRow_nil _ _ _ _,rfl,fun i e mv h=>by simp[Hc]at h⟩,bD⟩
  have cC:=Aa aC;have aW:w1.heap.size<=w2.heap.size:=hx2.size;have aI:∀(v:Value) (l:List Int) (_:True),Al w v l->∀X,0<l.length->v.ownBlock=some X->X<B:=fun v l _ h X hl hX=>by
   obtain⟨a,cap,rfl,-,-,h5⟩:=h.open;obtain⟨b',o,rfl,h6⟩:=h5 hl;injection hX with hX;have hX:b'=X:=hX;subst hX;have:=World.block_lt_of_cell? _ _ (h6 0 _ (AS hl));have h2:=aG.o;simp only at this;omega
  have aD:∀(v:Value) (l:List Int),Al w v l->(l≠ []->∀X,v.ownBlock=some X->¬FB X)->C6 (Q7 A NB (fun X=>X=B+1+1+1∨FB X)) (w3.alloc (.cells #[.slice none 0 0] 94)) v l:=fun v l h cA=>by
   have h2:=h.ex aA;have hk:AO (fun _ X=>w2.heap.size<=X) w2 (w3.alloc (.cells #[.slice none 0 0] 94)):=⟨(hx23.trans e5).size,fun X hX hn=>⟨(hx23.trans e5).block X hX,hn⟩⟩;refine⟨(h.ex aA).ex (hx23.trans e5),fun hl X hX hd=>?_⟩;obtain⟨a,cap,rfl,-,-,h5⟩:=h2.open;obtain⟨b',o,rfl,h6⟩:=h5 (List.length_pos_iff.2 hl);injection hX with hX;have hX:b'=X:=hX;subst hX;obtain⟨x,l',rfl⟩:=List.exists_cons_of_ne_nil hl;have hlt:b'<w2.heap.size:=World.block_lt_of_cell? _ _ (h6 0 x rfl);rcases hd with hd|hd|hd|⟨ev,he1,he2⟩
   .omega
   .omega
   .rcases hd with hd|hd
    .have:=aI _ _ trivial h;have:=this b' (List.length_pos_iff.2 hl) rfl;omega
    .exact cA hl b' rfl hd
   .rw[n0]at he1;injection he1 with he1;subst he1;cases he2
  have aU:=Aa (Rj aP.o (.pointer (some ⟨NB,0,none⟩)) (fun s w' tl' sl' tv' sv' side msg mv h hl bW bX bY aX cB hml aZ=>VN h hl bW bX bY cB aX aZ) (nn-tl.length) (0, []) _ tl sl _ _ ac ac (by rw[<-hnn];exact k7) (fun h=>absurd rfl h) aC (aD _ _ HT.o cE.o) (aD _ _ HS.o cF.o));have hR:Mj pn mn c.ml c.rows d.rows nn (nn-tl.length) (0, []) tl sl=GN c d tl sl:=by
   unfold GN;rw[hp,hm,hnn];rfl
  rw[hR]at aU;have q:=aQ.o.ex (hx2.trans (hx23.trans e5));have bR:=Aa (aQ.o.ex hx2);have b0:=(hx2.trans (hx23.trans e5)).cell B0.o;have b1:=(hx2.trans (hx23.trans e5)).cell B1.o;have bA:=Aa aA;have HS2:=Aa (show B+1+1+1<w2.heap.size from World.block_lt_of_cell? _ _ bR.o.c0);clear bO aK aI hp hm hnn hx2 hg hx01 hx02 hA hx23 hpr h11 hf11 k3 k4 k5 k6 k7 k8 k9 aJ bH bF bG bE bV bU aN aA e5 n0 bD aC aW aD hR aP q hE;obtain⟨R,hR⟩:=nA (GN c d tl sl);rw[hR]at aU;have cD:=Aa hR;clear hR;go_wp2_with fail
  try simp only[aL]
  generalize w3.alloc (.cells #[.slice none 0 0] 94)=w4 at *;clear aL;refine aU.o.mono ?_;rintro e w5⟨rfl,aY,bZ⟩;have aE:=Aa aY;have aS:=Aa aY.sw.ex;obtain⟨q0,bS⟩:=bR.o.ex aS.o;have bB:=Aa (show ∀r w',RfF FB (Ja 0 R) (Jb 0 R) r w'->RfF FB (Ja (Gd 0 0 (CA c.p c.m c.ml d.p d.m d.ml) c.n d.n tl sl (c.p.toNat^c.m.toNat)) (GN c d tl sl)) (Jb (Gd 0 0 (CA c.p c.m c.ml d.p d.m d.ml) c.n d.n tl sl (c.p.toNat^c.m.toNat)) (GN c d tl sl)) r w' from fun r w' h=>by rw[HE.o,cD.o];exact h);clear aY bZ b0 b1 aU cC;obtain⟨E2,aM⟩:∃E,R.2=E:=⟨_,rfl⟩;have bC:=Aa aM;simp only[aM];by_cases h0:E2=0
  .subst h0;obtain⟨ev,bT,n0,n1,n2,n3⟩:=aE.o.en;obtain⟨ea,ec,rfl⟩:=Ae n1;have N1:=Aa n1;have N2:=Aa n2;have N3:=Aa n3;have aB:=Aa (show Ja 0 R=Hc R.1.2/\Jb 0 R=0 from by
    unfold Ja Jb;rw[bC.o];exact⟨rfl,rfl⟩)
   clear aM n1 n2 n3;go_wp2_with fail
   refine bodyPost_ret (v:= .tuple #[.agg #[.slice ea R.1.2.length ec],(0:Int)]) bw rfl ⟨⟨0,0,aH.o,fun _=>aO.o trivial,bB.o _ _ ?_⟩,(bA.o.trans aS.o).setCell (p:=⟨B+1+1+1,0,none⟩) bz _⟩;rw[aB.o.1,aB.o.2];refine⟨_,rfl,bT,by rw[Fp];exact N2.o,?_,fun i e mv h1 h2=>⟨?_,fun aZ X hX hF=>(N3.o i e mv h1 h2).2 aZ X hX (.inr (.inr (.inl (.inr hF))))⟩,fun X hX hF=>?_⟩
   .rw[Fp];exact Sl.own (Ac (a:=⟨B+1+1+1,0,none⟩) N1.o (fun e=>by have:=(N1.o.lt _ e).1;have:=aE.o.ne;have:=aE.o.rb (B+1+1+1) (.inl rfl);have:=aE.o.sw.lb;simp only at *;omega) _)
   .have hp:=N3.o i e mv h1 h2
    cases hm:e.msg with
    | nil=>
     rw[hm]at hp;obtain⟨g1,a,cap,g2,g3,g4,g5⟩:=hp.1;exact⟨g1,a,cap,g2,g3,g4,fun hn=>absurd hn ag⟩
    | cons y l=>
     rw[hm]at hp;exact Sl.other hp.1 (fun X hX e2=>hp.2 ag X hX (.inr (.inr (.inl (.inl e2))))) _
   .have h1:=(N1.o.lt X hX).1;have h2:=aE.o.rb X (.inr hF);have h3:=aE.o.ne;have h4:=aE.o.sw.lb;omega
  .have k0:(E2==0)=false:=by simpa using h0
   by_cases h18:E2=18
   .subst h18;have aB:=Aa (show Ja 0 R= []/\Jb 0 R=11 from by
     unfold Ja Jb;rw[bC.o];exact⟨rfl,rfl⟩)
    clear aM h0;go_wp2_with fail
    refine bodyPost_ret (v:= .tuple #[.agg #[.slice none 0 0],(11:Int)]) bw rfl ⟨⟨0,0,aH.o,fun _=>aO.o trivial,bB.o _ _ ?_⟩,(bA.o.trans aS.o).setCell (p:=⟨B+1+1+1,0,none⟩) bz _⟩;rw[aB.o.1,aB.o.2];exact⟨_,rfl,Q5.nil _ _⟩
   .have k18:(E2==18)=false:=by simpa using h18
    have aB:=Aa (show Ja 0 R= []/\Jb 0 R=E2 from by
     unfold Ja Jb;rw[bC.o];simp[h18,h0])
    clear aM h18 h0;go_wp2_with fail
    refine bodyPost_ret (v:= .tuple #[.agg #[.slice none 0 0],E2]) bw rfl ⟨⟨0,0,aH.o,fun _=>aO.o trivial,bB.o _ _ ?_⟩,(bA.o.trans aS.o).setCell (p:=⟨B+1+1+1,0,none⟩) bz _⟩;rw[aB.o.1,aB.o.2];exact⟨_,rfl,Q5.nil _ _⟩
section
variable (p m:Nat) (ml:List Int)
def DH(msg:List Int)(rows:List (List Int)):Nat->Nat->Int
 | 0=>fun _=>0
 | i+1=>fun j=>((AG p m (Ar (p^m) (DH msg rows i j)) (Ai p m (lw ml) (Ar (p^m) (msg.getD i 0)) (Ar (p^m) (Ak rows i j))):Nat):Int)
def LW(msg:List Int)(rows:List (List Int))(i c j:Nat):Int:=if j<c then DH p m ml msg rows (i+1) j else DH p m ml msg rows i j
def Ps(l1 l2:List (List Int))(tl sl:List Int)(side:Int)(msg:List Int):Bool:=
 let gl:=if side=1 then l2 else l1
 if msg.length≠gl.length∨(msg.any fun x=> !Gj (p^m) x)=true then false else
 if side=1 then decide (0<=Jj p m ml tl.length (Hi p m ml tl.length (fun i=>DZ p m ml sl (Ak l1 i)) l1.length) (fun _=>GX tl (DH p m ml msg gl gl.length)) 1)
 else decide (0<=Jj p m ml tl.length (Hi p m ml tl.length (fun i=>GX tl (Ak l2 i)) l2.length) (fun _=>DZ p m ml sl (DH p m ml msg gl gl.length)) 1)
end
theorem FC{n:Nat}{f g:Nat->Int}(h:∀j,j<n->f j=g j):il n f=il n g:=List.map_congr_left fun j hj=>h j (List.mem_range.1 hj)
theorem S8{w:World}{B:Nat}{v:Value}{t:TypeId}{r:List Int}(h:w.heap[B]?=some (.cells #[v] t))(hv:Al w v r):BZ w (.slice (some (B,0)) 1 1) [r]:=
 ⟨[v],KC h,fun i r' u h1 h2=>by
  rcases i with _|i
  .simp at h1 h2;subst h1 h2;exact hv
  .simp at h1⟩
theorem seF_il{tl:List Int}{n N:Nat}{f:Nat->Int}(hN:tl.length=N)(hr:BB tl n=true):∀j,j<N->GX tl (fun k=>(il n f).getD k 0) j=GX tl f j:=fun j hj=>by
 have:=Df hr (i:=j) ac;show(il n f).getD (tl.getD j 0).toNat 0=f (tl.getD j 0).toNat
 exact GP ac f
theorem mpF_il{p m:Nat}{ml sl:List Int}{n N:Nat}{f:Nat->Int}(hN:N<=n):∀j,j<N->DZ p m ml sl (fun k=>(il n f).getD k 0) j=DZ p m ml sl f j:=fun j hj=>by
 show((Ai p m (lw ml) (Ar (p^m) (sl.getD j 0)) (Ar (p^m) ((il n f).getD j 0)):Nat):Int)=_
 rw[GP ac f];rfl
section
variable {b p m x0:Nat} {ml:List Int}
theorem Rh(w:World)(SB A:Nat)(hg:Bh w b p m ml x0)(x:Int)(c0:w.cell? (SB,0)=some (.pointer (some (A,0))))(c1:w.cell? (A,0)=some (.pointer (some (b,0)))):
  Calls Tryz.prog 223 #[x,.pointer (some (SB,0))] w fun r w'=>r= .returned (.bool (!Gj (p^m) x))/\Ex w w':=by
 have HI:=Aa (O3 w hg x);obtain⟨z,hz⟩:=nA (Gj (p^m) x);rw[hz]at HI ⊢;clear hg hz;go_enter Tryz.func223,Tryz.ntmps223
 exact zbR
theorem zdt{P:Prop}(h:P:=by
 clear aB aA hd;go_simp;exact hK _):P:=h
theorem zan{P:Prop}(h:P:=by
 intro L a nn aB aA hd K hK;rw[if_neg (by decide)]at hK;have o4:a.tmps[4]?=some (.pointer (some (B,0))):=aA 4 (by kernel_rfl);have q0:(wr.drewN nn).cell? (B,0)=some (.pointer (some (A,0))):=KS.o;exact zdt):P:=h
theorem zar{P:Prop}(h:P:=by
 intro L a nn aB aA hd K hK;rw[if_neg (by decide)]at hK;have dG:a.tmps[10]?=some ((.slice (some ⟨g,0,none⟩) n n)):=aA 10 (by kernel_rfl);exact zdt):P:=h
theorem zaw{P:Prop}(h:P:=by
 intro L a nn aB aA hd K hK;rw[if_neg (by decide)]at hK;have dF:a.tmps[13]?=some (.int .i64 c):=aA 13 (by kernel_rfl);exact zdt):P:=h
theorem zbS{P:Prop}(h:P:=by
 have q0:(wr.drewN nn).cell? (A,0)=some (.pointer (some (b,0))):=KA.o;exact zdt):P:=h
theorem zcp{P:Prop}(h:P:=by
 go_ret;exact⟨Ap (by rw[<-aM];exact cB.o),HX.o.trans (aF.o.trans aZ.o)⟩):P:=h
theorem zcT{P:Prop}(h:P:=by
 have cH:=Aa aO;clear h aO;go_wp2_with fail
 go_meet
 exact⟨cH.o,rfl⟩):P:=h
theorem Uf(w:World)(hg:Bh w b p m ml x0)(bO:1<=x0)(bN:x0<p^m)(A n:Nat)(hn:n<=64)(v1 v2:Value)(hP:Mv w A b n v1 v2)(l1 l2:List (List Int))(h1:BZ w v1 l1)(h2:BZ w v2 l2)(cP:∀r∈l1,r.length=n)(cO:∀r∈l2,r.length=n)(cS:l1.length<=256)(cR:l2.length<=256)
  (tl sl:List Int) (tv sv:Value) (ht:Al w tv tl) (hs:Al w sv sl) (dJ:sl.length=tl.length) (dI:tl.length<=n) (bR:BB tl n=true) (side:Int) (msg:List Int) (mv:Value) (hm:Al w mv msg):
  Calls Tryz.prog 182 #[.pointer (some (A,0)),.agg #[tv,sv],side,mv] w fun r w'=>r= .returned (.bool (Ps p m ml l1 l2 tl sl side msg))/\Ex w w':=by
 have e1:=AI w (.cells #[.pointer (some ⟨A,0,none⟩)] 186);have s0:(w.alloc (.cells #[.pointer (some ⟨A,0,none⟩)] 186)).cell? (w.heap.size,0)=some (.pointer (some (A,0))):=ag;have cM:(w.alloc (.cells #[.pointer (some ⟨A,0,none⟩)] 186)).heap.size=w.heap.size+1:=ag;obtain⟨b0,b1,e2,-⟩:=AX (w.alloc (.cells #[.pointer (some ⟨A,0,none⟩)] 186)) tv sv;rw[cM]at b0 b1;replace s0:=e2.cell s0;have hx:=e1.trans e2;have c0:=hx.cell hP.c0;have c4:=hx.cell hP.c4;have c5:=hx.cell hP.c5;have c10:=hx.cell hP.c10;obtain⟨B,hB⟩:=nA w.heap.size;rw[hB]at s0 b0 b1;obtain⟨ma,mc,rfl,-,m2,m3⟩:=hm.open;unfold maxLen at m2;obtain⟨HX,HG,HP,H1,H2,HT,HS,HM⟩:=On hx (hg.ex hx) (hP.ex hx) (h1.ex hx) (h2.ex hx) (ht.ex hx) (hs.ex hx) (hm.ex hx);obtain⟨Z,hZ⟩:=nA (Ps p m ml l1 l2 tl sl side msg);have bX:=hZ;unfold Ps at bX;rw[hZ];have HZ:=Aa bX;clear hg hP h1 h2 ht hs hm e1 e2 cM hx hZ bX m3;obtain⟨xa,xc,rfl,-,xl,-⟩:=H1.o.open;obtain⟨ya,yc,rfl,-,yl,-⟩:=H2.o.open;go_enter Tryz.func182,Tryz.ntmps182
 go_upto_region 1 with fail
 try simp only[hB]
 clear hB;generalize (w.alloc (.cells #[.pointer (some ⟨A,0,none⟩)] 186)).alloc (.cells #[tv,sv] 71)=w1 at *;have bB:=Aa s0;have dE:=Aa b0;have dD:=Aa b1;obtain⟨gl,bU⟩:=nA ((if side=1 then l2 else l1));obtain⟨gv,aO⟩:=nA ((if side=1 then(.slice ya l2.length yc:Value) else .slice xa l1.length xc));have cI:=Aa (show BZ w1 gv gl/\gl.length<=256/\∀r∈gl,r.length=n from by
  rw[<-bU,<-aO];by_cases h:side=1
  .rw[if_pos h,if_pos h];exact⟨H2.o,cR,cO⟩
  .rw[if_neg h,if_neg h];exact⟨H1.o,cS,cP⟩)
 have cC:=HZ.o;simp only[bU]at cC;have HZ:=Aa cC;clear cC;go_upto_if 23 with fail
 go_cut [9] from 23 to 28 (fun s9 wx=>s9=gv/\wx=w1)
 case first=>
  by_cases h:side=1
  .have hb:(side==1)=true:=by simpa using h
   rw[if_pos h]at aO;exact zcT
  .have hb:(side==1)=false:=by simpa using h
   rw[if_neg h]at aO;exact zcT
 case rest=>
  obtain⟨rfl,rfl⟩:=hcut;clear bU aO;obtain⟨ga,gc,rfl,-,g2,g3⟩:=cI.o.1.open;unfold maxLen at g2;have G3:=Aa g3;clear g3;by_cases hml:msg.length=gl.length
  .have cW:((msg.length:Int) !=(gl.length:Int))=false:=by simp;omega
   have bV:(msg.length !=gl.length)=false:=aq;have bA:=Aa (JB wc (.pointer (some ⟨B,0,none⟩)) (.slice ma msg.length mc) msg.length (Ao msg) HM.o (fun i=> !Gj (p^m) (msg.getD i 0)) (fun w1 i u bM hu=>by
    obtain⟨x,hx,rfl,dH⟩:=Oo hu;rw[dH];exact Rh w1 B A (HG.o.ex bM) x (bM.cell bB.o) (bM.cell HP.o.c0)))
   rw[L7 msg (fun x=> !Gj (p^m) x)]at bA
   cases hany:(msg.any fun x=> !Gj (p^m) x) with
   | true=>
    rw[hany]at bA;have hz:=HZ.o;rw[if_pos (.inr hany)]at hz;subst hz;clear hany hml;go_wp2_with (go_at_call 116;refine bA.o.mono ?_;rintro e w4⟨rfl,aQ⟩;have bH:=Aa aQ;clear aQ)
    go_ret;exact⟨rfl,HX.o.trans bH.o⟩
   | false=>
    rw[hany]at bA;have hz:=HZ.o;rw[if_neg (by rw[hany];simp[hml])]at hz;have HZ:=Aa hz;have dT:=Aa hml;clear hany hml hz;go_wp2_with (first|(go_at_call 116;refine bA.o.mono ?_;rintro e w4⟨rfl,aQ⟩;have bH:=Aa aQ;have bJ:=aQ.cell bB.o;have dL:=aQ.cell HP.o.c4;clear aQ)|(at_make;refine Au _ rfl _ _ 22 rfl 3 (.int .i64 0) 8 Tryz.underlying22 AC rfl _ n rfl rfl rfl ac ai ?_))
    obtain⟨g,bF⟩:=nA w4.heap.size;intro w5 aC hx5
    try simp only[bF]
    have cZ:=Aa (show AH w5 g 3 g n (iv (DH p m ml msg gl 0)) from by rw[<-bF];exact aC);have dW:=Aa bF;have dO:=Aa (bH.o.trans hx5);have dU:=Aa (fun i (hi:i<gl.length)=>show gl[i]?=some (gl.getD i [])/\(gl.getD i []).length=n from by
     have h:gl[i]?=some (gl.getD i []):=aw;exact⟨h,cI.o.2.2 _ (List.mem_of_getElem? h)⟩)
    obtain⟨dV,dY,dS,dR⟩:=Eq cI.o.2.1 (fun (w':World) (h:Ex wc w') (y z:Int)=>Kr w' (HG.o.ex h) y z) (fun (w':World) (h:Ex wc w') (y z:Int)=>Fa w' (HG.o.ex h) y z) HG.o.sh.p2;have aM:=dT.o;obtain⟨M,hM⟩:=nA msg.length;have dB:=Aa hM;have HMO:=Aa HM.o;obtain⟨_,_,dK,-,-,m3⟩:=HM.o.open;injection dK with hme1 hme2 hme3;subst hme1;have M3:=Aa m3;rw[hM]at aM ⊢;have hM256:M<=256:=by have:=dV.o;omega
    clear aC hx5 bF bJ dL hM m3 hme3 hme2;go_wp2_with fail
    go_loopw [47] (fun i' wr=>∃i:Nat,i<=M/\i'= .int .i64 i/\Hia (AH wr g 3 g n (iv (DH p m ml msg gl i)))/\Hia (Ex wc wr)) (fun i' _=>M-(intOf i').toNat)
    case atStart=>exact⟨0,ac,rfl,cZ,dO⟩
    case round=>
     clear cZ;obtain⟨i,hi,rfl,aC,aE⟩:=hrel;by_cases hiM:i<M
     .obtain⟨mb,mo,rfl,cQ⟩:=M3.o (by have:=dB.o;omega);obtain⟨gb,go,rfl,cT⟩:=G3.o ac;obtain⟨cV,cU⟩:=dU.o i ac;obtain⟨uv,aX,cN⟩:=cT i _ cV;obtain⟨av,bW⟩:∃x,msg.getD i 0=x:=⟨_,rfl⟩;have cm:=aE.o.cell (cQ i av (by rw[<-bW];exact AS (by have:=dB.o;omega)));have cu:=aE.o.cell aX;obtain⟨ua,uc,rfl,-,u2,u3⟩:=cN.open;rw[cU]at u3 cu;unfold maxLen at u2;have U3:=Aa u3;have cJ:=Aa (fun c (hc:c<n)=>AS (l:=gl.getD i []) (i:=c) ac);have i1:(0:Int)<=(i:Int):=by omega
      have i2:(i:Int)<(M:Int):=ac;have i3:(i:Int)<(gl.length:Int):=ac;obtain⟨cY,bE,dX,HWR⟩:=Eq (show AH wr g 3 g n (iv (LW p m ml msg gl i 0)) from aC.o.icongr fun j hj=>by unfold LW;rw[if_neg ac]) aE.o bW (show Ex wc wr from aE.o);clear cQ cT cV cU aX cN u3 bW aC aE;go_wp2_with fail
      clear cm cu
      go_loopw [57] (fun c' wr=>∃c:Nat,c<=n/\c'= .int .i64 c/\Hia (AH wr g 3 g n (iv (LW p m ml msg gl i c)))/\Hia (Ex wc wr)) (fun c' _=>n-(intOf c').toNat)
      case atStart=>exact⟨0,ac,rfl,cY,bE⟩
      case round=>
       clear cY bE;obtain⟨c,hc,rfl,aC,aE⟩:=hrel;by_cases hcn:c<n
       .obtain⟨ub,uo,rfl,aX⟩:=U3.o ac;obtain⟨xv,bK⟩:∃x,(gl.getD i []).getD c 0=x:=⟨_,rfl⟩;have bT:=cJ.o c hcn;rw[bK]at bT;have cx:=aE.o.cell (aX c xv bT);have J1:=Aa (show(0:Int)<=(c:Int) by omega);have J2:=Aa (show(c:Int)<(n:Int) by omega);have j1:=J1.o;have j2:=J2.o;obtain⟨aW,aR⟩:∃x,DH p m ml msg gl i c=x:=⟨_,rfl⟩;have KG:=Aa (show wr.cell? (g,c)=some (.int .i64 aW) from by
         rw[aC.o.cell hcn,<-aR];show some (Value.int .i64 (LW p m ml msg gl i c c))=_
         unfold LW;rw[if_neg ac])
        obtain⟨KF,KS,KA,aU,bC⟩:=Of (aC.o.frz c) (aE.o.cell bB.o) (aE.o.cell HP.o.c0) aE.o aC.o;obtain⟨K1,bG⟩:∃K,Ai p m (lw ml) (Ar (p^m) av) (Ar (p^m) xv)=K:=⟨_,rfl⟩;have aY:K1<p^m:=by rw[<-bG];exact AY (by have:=dR.o;omega) _ _
        have cG:=Aa (fun w' (h:Ex wc w')=>dS.o w' h av xv);rw[bG]at cG;obtain⟨K2,bY⟩:∃K,AG p m (Ar (p^m) aW) (Ar (p^m) (K1:Nat))=K:=⟨_,rfl⟩;have cL:=Aa (fun w' (h:Ex wc w')=>dY.o w' h aW (K1:Nat));rw[bY]at cL;have dC:=Aa (show Az (LW p m ml msg gl i c) c (K2:Int)=LW p m ml msg gl i (c+1) from by
         funext j;by_cases e:j=c
         .subst e;rw[Ab];unfold LW;rw[if_pos ac];show _=((AG p m (Ar (p^m) (DH p m ml msg gl i j)) (Ai p m (lw ml) (Ar (p^m) (msg.getD i 0)) (Ar (p^m) ((gl.getD i []).getD j 0))):Nat):Int)
          rw[aR,dX.o,bK,bG,<-bY,Ay aY]
         .rw[Ad _ _ e];unfold LW;by_cases h:j<c
          .exact za7
          .rw[if_neg h,if_neg ac])
        have aP:=Aa (fun n'=>show AH ((wr.drewN n').setCell (g,c) (.int .i64 (K2:Nat))) g 3 g n (iv (LW p m ml msg gl i (c+1))) from by
         rw[<-dC.o,<-CC];exact(bC.o.drewN n').set c _)
        have aL:=Aa (fun n'=>(bC.o.drewN n').exSet (a:=wc) (by rw[<-dW.o];exact bH.o.size) (aU.o.drewN n') c (.int .i64 (K2:Nat)));clear aX bK bT aR bG aY bY aC aE;go_upto_region 13 with fail
        refine NF (fun k=>([(.slice (some ⟨g,0,none⟩) n n),.int .i64 c,.pointer (some ⟨A,0,none⟩),.pointer (some ⟨A,0,none⟩),.pointer (some ⟨A,0,none⟩),.pointer (some ⟨b,0,none⟩),(.slice (some ⟨g,0,none⟩) n n),.int .i64 c,.pointer (some ⟨g,c,none⟩),.int .i64 aW,.pointer (some ⟨A,0,none⟩),.pointer (some ⟨A,0,none⟩),.pointer (some ⟨A,0,none⟩),.pointer (some ⟨b,0,none⟩),.int .i64 av,.int .i64 xv,.int .i64 (K1:Nat),.int .i64 (K2:Nat),.pointer (some ⟨g,c,none⟩)]:List Value).getD k undef) (fun w'=>w'.setCell (g,c) (.int .i64 (K2:Nat))) 19 ah ah ah ?_ ?_
        .simp only[AJ];refine⟨?_,?_,?_,?_,?_,?_,?_,?_,?_,?_,?_,?_,?_,?_,?_,?_,?_,?_,?_,?_,trivial⟩
         .exact zar
         .exact zaw
         .exact zan
         .intro L a nn aB aA hd K hK;rw[if_neg ae]at hK;have e2:=aB 2 64 _ (hd ⟨2,.data⟩ ag rfl) rfl rfl;exact zdt
         .intro L a nn aB aA hd K hK;rw[if_neg ae]at hK;have e3:=aB 3 65 _ (hd ⟨3,.data⟩ ag rfl) rfl rfl;exact zdt
         .intro L a nn aB aA hd K hK;rw[if_neg ae]at hK;have e4:=aB 4 66 _ (hd ⟨4,.data⟩ ag rfl) rfl rfl;exact zbS
         .exact zar
         .exact zaw
         .intro L a nn aB aA hd K hK;rw[if_neg ae]at hK;have e6:=aB 6 68 _ (hd ⟨6,.data⟩ ag rfl) rfl rfl;have e7:=aB 7 69 _ (hd ⟨7,.data⟩ ag rfl) rfl rfl;have j1:=J1.o;have j2:=J2.o;exact zdt
         .intro L a nn aB aA hd K hK;rw[if_neg ae]at hK;have e8:=aB 8 70 _ (hd ⟨8,.data⟩ ag rfl) rfl rfl;have q0:(wr.drewN nn).cell? (g,c)=some (.int .i64 aW):=KG.o;exact zdt
         .exact zan
         .intro L a nn aB aA hd K hK;rw[if_neg ae]at hK;have e10:=aB 10 72 _ (hd ⟨10,.data⟩ ag rfl) rfl rfl;exact zdt
         .intro L a nn aB aA hd K hK;rw[if_neg ae]at hK;have e11:=aB 11 73 _ (hd ⟨11,.data⟩ ag rfl) rfl rfl;exact zdt
         .intro L a nn aB aA hd K hK;rw[if_neg ae]at hK;have e12:=aB 12 74 _ (hd ⟨12,.data⟩ ag rfl) rfl rfl;exact zbS
         .intro L a nn aB aA hd K hK;rw[if_neg ae]at hK;have o12:a.tmps[12]?=some (.int .i64 av):=aA 12 ah;exact zdt
         .intro L a nn aB aA hd K hK;rw[if_neg ae]at hK;have o14:a.tmps[14]?=some (.int .i64 xv):=aA 14 ah;exact zdt
         .intro L a nn aB aA hd K hK;rw[if_neg ae]at hK;have e13:=aB 13 75 _ (hd ⟨13,.data⟩ ag rfl) rfl rfl;have e14:=aB 14 76 _ (hd ⟨14,.data⟩ ag rfl) rfl rfl;have e15:=aB 15 77 _ (hd ⟨15,.data⟩ ag rfl) rfl rfl;clear aB aA hd;go_simp;refine(cG.o _ (aU.o.drewN nn)).mono ?_;rintro e w'⟨rfl,k',rfl⟩;rw[World.drewN_drewN];exact hK _
         .intro L a nn aB aA hd K hK;rw[if_neg ae]at hK;have e5:=aB 5 67 _ (hd ⟨5,.data⟩ ag rfl) rfl rfl;have e9:=aB 9 71 _ (hd ⟨9,.data⟩ ag rfl) rfl rfl;have e16:=aB 16 78 _ (hd ⟨16,.data⟩ ag rfl) rfl rfl;clear aB aA hd;go_simp;refine(cL.o _ (aU.o.drewN nn)).mono ?_;rintro e w'⟨rfl,k',rfl⟩;rw[World.drewN_drewN];exact hK _
         .intro L a nn aB aA hd K hK;rw[if_neg ae]at hK;have e0:=aB 0 62 _ (hd ⟨0,.data⟩ ag rfl) rfl rfl;have e1:=aB 1 63 _ (hd ⟨1,.data⟩ ag rfl) rfl rfl;have j1:=J1.o;have j2:=J2.o;exact zdt
         .intro L a nn aB aA hd K hK;rw[if_pos rfl]at hK;have e18:=aB 18 80 _ (hd ⟨18,.data⟩ ag rfl) rfl rfl;have e17:=aB 17 79 _ (hd ⟨17,.data⟩ ag rfl) rfl rfl;have q0:(wr.drewN nn).cell? (g,c)=some (.int .i64 aW):=KG.o;have q1:(wr.drewN nn).frozen? (g,c)=false:=KF.o;clear aB aA hd;go_simp;exact hK
        .intro n';simp only[Ci,Act.put,List.setIfInBounds_toArray,List.set_cons_zero,List.set_cons_succ];clear cG cL KG KF KS KA dC;go_wp2_with fail
         go_roundw
         case rel=>first|exact⟨c+1,ac,by go_num,Aa (aP.o _),Aa (aL.o _)⟩|((repeat apply Exists.intro);exact⟨⟨c+1,ac,by go_num,Aa (aP.o _),Aa (aL.o _)⟩,rfl⟩)
         case measure=>simp[intOf];omega
       .obtain rfl:c=n:=by omega
        have aP:=Aa (show AH wr g 3 g c (iv (DH p m ml msg gl (i+1))) from aC.o.icongr fun j hj=>by unfold LW;rw[if_pos hj]);have aL:=Aa aE.o;clear aC aE;go_wp2_with fail
        go_roundw
        case rel=>first|exact⟨i+1,ac,by go_num,aP,aL⟩|((repeat apply Exists.intro);exact⟨⟨i+1,ac,by go_num,aP,aL⟩,rfl⟩)
        case measure=>simp[intOf];omega
     .obtain rfl:i=M:=by omega
      have aP:=Aa aC.o.isl;have aL:=Aa aE.o;have cE:=Aa (fun (w':World) (h:Ex wc w')=>MT w' (HG.o.ex h) A n hn _ _ (HP.o.ex h) l1 l2 (H1.o.ex h) (H2.o.ex h) cP cO cS cR tl sl tv sv (HT.o.ex h) (HS.o.ex h) dJ dI bR);have bJ:=aL.o.cell bB.o;have dN:=aL.o.cell dE.o;have dM:=aL.o.cell dD.o;obtain⟨N,hN⟩:=nA tl.length;obtain⟨F1,cA⟩:∃F,(fun i=>DZ p m ml sl (Ak l1 i))=F:=⟨_,rfl⟩;obtain⟨F2,bZ⟩:∃F,(fun i=>GX tl (Ak l2 i))=F:=⟨_,rfl⟩;rw[cA,bZ,hN]at cE;have hz:=HZ.o;rw[cA,bZ,hN]at hz;rw[show gl.length=i from aM.symm]at hz;have HZ:=Aa hz;have cF:=Aa hN;have hN64:N<=64:=ac;clear aC aE hz cA bZ;go_wp2_with fail
      refine(cE.o _ aL.o).mono ?_;rintro e w9⟨u1,u2,rfl,bQ,bP,bL⟩;obtain⟨dQ,dP,aF,bD⟩:=Eq bQ bP (aL.o.trans bL) (aP.o.ex bL);obtain⟨ea1,ec1,rfl,-,-,-⟩:=bQ.open;obtain⟨ea2,ec2,rfl,-,-,-⟩:=bP.open;clear bQ bP bL bJ dN dM cE aP;obtain⟨bI,cX,dA,cD⟩:=Eq (fun (w':World) (h:Ex wc w')=>(⟨h.cell bB.o,h.cell dE.o,h.cell dD.o⟩:w'.cell? (B,0)=some (.pointer (some (A,0)))/\w'.cell? (B+1,0)=some tv/\w'.cell? (B+1,1)=some sv)) (fun (w':World) (h:Ex w9 w') (R:Nat) (hR:R<=1000) (a:Nat->Nat->Int) (v:Value) (hv:BZ w' v (Aw N R a))=>Ky w' (HG.o.ex (aF.o.trans h)) bO bN A ((aF.o.trans h).cell HP.o.c0) N R ac hR a v hv) (fun (w':World) (h:Ex w9 w') (E:Nat) (a:Nat->Nat->Int) (R:Nat) (rv pv:Value) (hE:Gf w' E b N (Hi p m ml N a R) rv pv) (f:Nat->Int) (v:Value) (hv:BZ w' v (Aw N 1 fun _=>f))=>Gw w' (HG.o.ex (aF.o.trans h)) E N ac _ rv pv hE (Kx N a R) 1 (fun _=>f) v hv) (show ∀w',Ex wc w'->Al w' tv tl/\Al w' sv sl from fun w' h=>⟨HT.o.ex h,HS.o.ex h⟩);have cW:n<=n:=Nat.le_refl _;by_cases hs1:side=1
      .subst hs1;have cB:=Aa (show decide (0<=Jj p m ml N (Hi p m ml N F1 l1.length) (fun _=>GX tl (DH p m ml msg gl i)) 1)=Z from by
        have:=HZ.o;rw[if_pos rfl]at this;exact this)
       have cK:=Aa (fun (w':World) (h:Ex w9 w')=>KM w' A N ac tl (il n (DH p m ml msg gl i)) tv sv _ (cD.o _ (aF.o.trans h)).1 (bD.o.ex h) cF.o (by rw[AL];exact bR));obtain⟨k0,k1,k2⟩:=bI.o _ aF.o;clear HZ;go_upto_region 18 with fail
       have G0:Ex w9 w9.drew:=(Ex.refl w9).drew
       go_region_held3 (fun w'=>w'.cell? (B,0)=some (.pointer (some (A,0)))/\w'.cell? (B+1,0)=some tv/\w'.cell? (B+1,1)=some sv)
        ((refine bI.o _ (aF.o.trans ?_);first|with_reducible exact G0|with_reducible exact aS.o|with_reducible exact aN.o|exact aN.o.alloc _|with_reducible exact aZ.o))
        (first|(go_at_call 225;(with_reducible refine(cX.o _ G0 l1.length ac _ _ (dQ.o.ex G0)).mono ?_);rintro e w10⟨E1,rv1,pv1,rfl,aJ,aH⟩;have aV:=Aa aJ;have aS:=Aa (G0.trans aH);clear aJ aH)|(go_at_call 227;(with_reducible refine(cK.o _ aS.o).mono ?_);rintro e w11⟨g11,rfl,aI,aD⟩;have aT:=Aa aI.isl;have aK:=Aa aD;have aN:=Aa (aS.o.trans aD);clear aI aD)|(go_at_call 226;have h9:=aT.o.ex (AI w11 (.cells #[.slice (some ⟨g11,0,none⟩) N N] 22));rw[FC (seF_il cF.o bR)]at h9;have bS:=S8 (B:=w11.heap.size) (D6 rfl) h9;(with_reducible refine(dA.o _ (aN.o.alloc _) E1 F1 l1.length rv1 pv1 ((aV.o.ex aK.o).ex (AI w11 _)) (GX tl (DH p m ml msg gl i)) _ bS).mono ?_);rintro e w12⟨rfl,aG⟩;have aZ:=Aa ((aN.o.alloc _).trans aG);clear aG))
       go_wp2_with fail
       exact zcp
      .have hbs:(side==1)=false:=by simpa using hs1
       have cB:=Aa (show decide (0<=Jj p m ml N (Hi p m ml N F2 l2.length) (fun _=>DZ p m ml sl (DH p m ml msg gl i)) 1)=Z from by
        have:=HZ.o;rw[if_neg hs1]at this;exact this)
       have cK:=Aa (fun (w':World) (h:Ex w9 w')=>Ld w' (HG.o.ex (aF.o.trans h)) A ((aF.o.trans h).cell HP.o.c0) N ac tl sl (il n (DH p m ml msg gl i)) tv sv _ (cD.o _ (aF.o.trans h)).1 (cD.o _ (aF.o.trans h)).2 (bD.o.ex h) cF.o ac (by rw[AL];omega));obtain⟨k0,k1,k2⟩:=bI.o _ aF.o;clear HZ;go_upto_region 19 with fail
       have G0:Ex w9 w9.drew:=(Ex.refl w9).drew
       go_region_held3 (fun w'=>w'.cell? (B,0)=some (.pointer (some (A,0)))/\w'.cell? (B+1,0)=some tv/\w'.cell? (B+1,1)=some sv)
        ((refine bI.o _ (aF.o.trans ?_);first|with_reducible exact G0|with_reducible exact aS.o|with_reducible exact aN.o|exact aN.o.alloc _|with_reducible exact aZ.o))
        (first|(go_at_call 225;(with_reducible refine(cX.o _ G0 l2.length ac _ _ (dP.o.ex G0)).mono ?_);rintro e w10⟨E1,rv1,pv1,rfl,aJ,aH⟩;have aV:=Aa aJ;have aS:=Aa (G0.trans aH);clear aJ aH)|(go_at_call 228;(with_reducible refine(cK.o _ aS.o).mono ?_);rintro e w11⟨g11,rfl,aI,aD⟩;have aT:=Aa aI.isl;have aK:=Aa aD;have aN:=Aa (aS.o.trans aD);clear aI aD)|(go_at_call 226;have h9:=aT.o.ex (AI w11 (.cells #[.slice (some ⟨g11,0,none⟩) N N] 22));rw[FC (mpF_il ac)]at h9;have bS:=S8 (B:=w11.heap.size) (D6 rfl) h9;(with_reducible refine(dA.o _ (aN.o.alloc _) E1 F2 l2.length rv1 pv1 ((aV.o.ex aK.o).ex (AI w11 _)) (DZ p m ml sl (DH p m ml msg gl i)) _ bS).mono ?_);rintro e w12⟨rfl,aG⟩;have aZ:=Aa ((aN.o.alloc _).trans aG);clear aG))
       go_wp2_with fail
       exact zcp
  .have cW:((msg.length:Int) !=(gl.length:Int))=true:=by simp;omega
   have bV:(msg.length !=gl.length)=true:=aq;have hz:=HZ.o;rw[if_pos (.inl hml)]at hz;subst hz;clear hml;exact zdi
end
def LK:Rf:=⟨0,0,0, []⟩
def Na(k:Nat)(l:List Int):Int:=if k=0 then 0 else l.getD (l.length-1) 0
section
variable (p m:Nat) (ml:List Int) (l1 l2:List (List Int)) (n:Nat) (es:List Rf)
def Vf(k:Nat)(tl sl:List Int)(X:Nat × Int):Nat × Int:=
 if k=es.length then(k,13) else
 if (es.getD k LK).tp≠Na k tl∨(es.getD k LK).sc≠Na k sl then(k+1,13) else
 if (es.getD k LK).side=-1/\(es.getD k LK).msg.length=0/\tl.length<n then X else
 if ((es.getD k LK).side=0∨(es.getD k LK).side=1)/\Ps p m ml l1 l2 tl sl (es.getD k LK).side (es.getD k LK).msg=true then(k+1,0) else(k+1,13)
def Xb:Nat->Nat->List Int->List Int->Nat × Int
 | 0,k,tl,sl=>Vf p m ml l1 l2 n es k tl sl (k+1,13)
 | d+1,k,tl,sl=>Vf p m ml l1 l2 n es k tl sl (Eh (Xb d) (p^m) tl sl n (k+1))
end
def T5(AB:Nat):World->Nat->Prop:=fun _ X=>X=AB
structure Gp(wS:World)(AB FB:Nat)(fv:Value)(N:Nat)(k:Nat)(w:World):Prop where
 ex:Ex wS w
 c:w.cell? (AB,0)=some (.int .i64 k)
 f:w.frozen? (AB,0)=false
 fb:w.cell? (FB,0)=some fv
 ne:AB≠FB
 lb:wS.heap.size<=AB
 le:k<=N
section
variable {wS w w':World} {AB FB N k:Nat} {fv:Value}
theorem Gp.stt:Vg (Gp wS AB FB fv N) (T5 AB) where
 ex:=fun s w w' h hx=>⟨h.ex.trans hx,hx.cell h.c,hx.frz h.c h.f,hx.cell h.fb,h.ne,h.lb,h.le⟩
 lt:=fun s w B h hd=>by rw[show B=AB from hd];exact World.block_lt_of_cell? _ _ h.c
 dx:=fun s w w' B h hx hd=>hd
theorem Gp.next(h:Gp wS AB FB fv N k w)(hk:k<N):Gp wS AB FB fv N (k+1) (w.setCell (AB,0) (.int .i64 ((k:Int)+1)))/\AO (T5 AB) w (w.setCell (AB,0) (.int .i64 ((k:Int)+1))):=
 ⟨⟨h.ex.setCell (p:=⟨AB,0,none⟩) h.lb _,by rw[World.cell?_setCell_same _ _ _ h.c];simp,by rw[Ax];exact h.f,by rw[Ah h.ne];exact h.fb,h.ne,h.lb,hk⟩,Fz rfl fun X h=>h⟩
end
theorem zbb{P:Prop}(h:P:=by
 induction es with
 | nil=>intro aA _ i hi;simp at hi
 | cons e es ih=>
  intro aA hm i hi j hj
  cases aA with
  | nil=>simp at hm
  | cons u aA=>
   show(e.cells u++MY es aA)[i*4+j]?=_
   cases i with
   | zero=>rw[List.getElem?_append_left (by simp[Rf.cells];omega)];simp
   | succ i=>
    rw[List.getElem?_append_right (by simp[Rf.cells];omega)];have:=ih aA (by simpa using hm) i (by simpa using hi) j hj;rw[show(i+1)*4+j-(e.cells u).length=i*4+j from by simp[Rf.cells];omega,this];simp):P:=h
theorem zdq{P:Prop}(h:P:=by
 rw[<-Nat.add_assoc]at this;exact this):P:=h
theorem Im{w:World}{v:Value}{es:List Rf}(h:O9 w v es):∃a cap,v= .slice a es.length cap/\cap<=maxLen/\es.length<=cap/\(0<es.length->∃b o,a=some ⟨b,o,none⟩/\∀i,i<es.length->∃mv,w.cell? ⟨b,o+i*4,none⟩=some (.int .i64 (es.getD i LK).tp)/\w.cell? ⟨b,o+i*4+1,none⟩=some (.int .i64 (es.getD i LK).sc)/\w.cell? ⟨b,o+i*4+2,none⟩=some (.int .i64 (es.getD i LK).side)/\w.cell? ⟨b,o+i*4+3,none⟩=some mv/\Al w mv (es.getD i LK).msg):=by
 obtain⟨aA,h1,⟨h2,a,cap,h3,h4,h5,h6⟩,h7⟩:=h;refine⟨a,cap,h3,h5,h4,fun hn=>?_⟩;obtain⟨b,o,h8,h9⟩:=h6 hn;refine⟨b,o,h8,fun i hi=>?_⟩;have aB:∀(es:List Rf) (aA:List Value),aA.length=es.length->∀i,i<es.length->∀j,j<4->(MY es aA)[i*4+j]?=(((es.getD i LK).cells (aA.getD i undef)))[j]?:=fun es=>by
  exact zbb
 have aC:aA[i]?=some (aA.getD i undef):=by
  exact zcZ
 have aD:es[i]?=some (es.getD i LK):=by
  rw[List.getD_eq_getElem?_getD,List.getElem?_eq_getElem hi];rfl
 refine⟨aA.getD i undef,?_,?_,?_,?_,h7 i _ _ aD aC⟩
 .have:=h9 (i*4+0) _ (aB es aA h1 i hi 0 ac);exact this
 .have:=h9 (i*4+1) _ (aB es aA h1 i hi 1 ac);exact zdq
 .have:=h9 (i*4+2) _ (aB es aA h1 i hi 2 ac);exact zdq
 .have:=h9 (i*4+3) _ (aB es aA h1 i hi 3 ac);exact zdq
structure CkE(p m:Nat)(ml:List Int)(l1 l2:List (List Int))(n A b x0 RB SB:Nat)(v1 v2 ev:Value)(es:List Rf)(wS:World):Prop where
 pr:Mv wS A b n v1 v2
 gf:Bh wS b p m ml x0
 m1:BZ wS v1 l1
 m2:BZ wS v2 l2
 x1:1<=x0
 x2:x0<p^m
 n64:n<=64
 r1:∀r∈l1,r.length=n
 r2:∀r∈l2,r.length=n
 k1:l1.length<=256
 k2:l2.length<=256
 rb:wS.cell? (RB,0)=some ev
 sb:wS.cell? (SB,0)=some (.pointer (some (A,0)))
 rs:O9 wS ev es
theorem zbt{P:Prop}(h:P:=by
 subst hy;go_wp2_with (go_at_call 182;refine aB.o.mono ?_;rintro e9 w9⟨rfl,aD⟩;have aF:=Aa aD;clear aD)
 go_ret;exact⟨rfl,Gp.stt.ex _ _ _ aG.o aF.o,aS.o.trans (Gp.stt.keeps aG.o aF.o)⟩):P:=h
theorem zbq{P:Prop}(h:P:=by
 rw[if_neg (by simp)]at hy;exact zbt):P:=h
theorem zbP{P:Prop}(h:P:=by
 obtain⟨y2,y3,b0,s0,a4⟩:=aI.o
 go_quiet (fail)
 go_wp2_with fail
 go_meet
 exact⟨by rw[aO.o],Aa ((Ex.refl _).drewN _)⟩):P:=h
theorem zbH{P:Prop}(h:P:=by
 clear hA hBm;exact zbP):P:=h
theorem zbJ{P:Prop}(h:P:=by
 clear hA;exact zbP):P:=h
theorem JU{p m:Nat}{ml:List Int}{l1 l2:List (List Int)}{n A b x0 RB SB AB FB:Nat}{v1 v2 ev:Value}{es:List Rf}{wS:World}(H:CkE p m ml l1 l2 n A b x0 RB SB v1 v2 ev es wS)(fv:Value)
  (k:Nat) (w:World) (tl sl:List Int) (tv sv:Value) (X:Nat × Int) (cM:tl.length<=n) (bW:sl.length=tl.length) (bZ:BB tl n=true) (cA:k≠0->tl≠ []) (hs:Gp wS AB FB fv es.length k w) (ht:C6 (T5 AB) w tv tl) (bK:C6 (T5 AB) w sv sl)
  (hX:tl.length<n->∀w',Gp wS AB FB fv es.length (k+1) w'->C6 (T5 AB) w' tv tl->C6 (T5 AB) w' sv sl->Calls Tryz.prog 181 #[.pointer (some (A,0)),.agg #[tv,sv],fv] w' fun r w''=>r= .returned (.int .i64 X.2)/\Gp wS AB FB fv es.length X.1 w''/\AO (T5 AB) w' w''):
  Calls Tryz.prog 180 #[.agg #[tv,sv],.pointer (some (AB,0)),.pointer (some (RB,0)),.pointer (some (SB,0)),.pointer (some (FB,0))] w fun r w'=>r= .returned (.int .i64 (Vf p m ml l1 l2 n es k tl sl X).2)/\Gp wS AB FB fv es.length (Vf p m ml l1 l2 n es k tl sl X).1 w'/\AO (T5 AB) w w':=by
 obtain⟨b0,b1,e1,aT⟩:=AX w tv sv;have aC:=Aa (Gp.stt.ex _ _ _ hs e1);have bA:=Aa (Gp.stt.keeps hs e1);have cH:=Aa (ht.keep bA.o);have cF:=Aa (bK.keep bA.o);obtain⟨ea,ec,rfl,cT,cP,aE⟩:=Im H.rs;unfold maxLen at cT;obtain⟨ta,tc,rfl,-,t2,t3⟩:=ht.1.open;obtain⟨sa,sc,rfl,-,s2,s3⟩:=bK.1.open;unfold maxLen at t2 s2;obtain⟨B,hB⟩:=nA w.heap.size;rw[hB]at b0 b1;have cK:=Aa (Gp.stt.new hs e1 (B:=B) ac);have c0:=aC.o.c;have r0:=aC.o.ex.cell H.rb;obtain⟨HH,HX,HC,dC,dD,cI⟩:=To H hX aE bZ cA bW;have cR:=hs.le;obtain⟨N,hN⟩:=nA es.length;have HNN:=Aa hN;obtain⟨Y,hY⟩:=nA (Vf p m ml l1 l2 n es k tl sl X);have bD:=hY;unfold Vf at bD;rw[hN]at bD cR r0 HC cP aC HX ⊢;rw[hY];have aA:=Aa bD;clear hs ht bK H hX bZ cA bW e1 aT aE hY bD t3 s3;go_enter Tryz.func180,Tryz.ntmps180
 go_upto_region 1 with fail
 try simp only[hB]
 clear hB;generalize w.alloc (.cells #[.slice ta tl.length tc,.slice sa sl.length sc] 71)=w1 at *;by_cases h0:k=N
 .have cV:((k:Int)==(N:Int))=true:=by simp;omega
  have bM:(k==N)=true:=aq;have hy:=aA.o;rw[if_pos h0]at hy;subst hy;clear h0;go_wp2_with fail
  go_ret;exact⟨rfl,aC.o,bA.o⟩
 .have cV:((k:Int)==(N:Int))=false:=by simp;omega
  have bM:(k==N)=false:=aq;have cS:k<N:=ac;have hy:=aA.o;rw[if_neg h0]at hy;have aA:=Aa hy;obtain⟨eb,eo,rfl,cC⟩:=HC.o ac;obtain⟨mv,q0,q1,q2,q3,bC⟩:=cC k ac;obtain⟨e,he⟩:=nA (es.getD k LK);rw[he]at q0 q1 q2 bC hy;have aA:=Aa hy;replace q0:=aC.o.ex.cell q0;replace q1:=aC.o.ex.cell q1;replace q2:=aC.o.ex.cell q2;replace q3:=aC.o.ex.cell q3;have dE:=Aa bC;obtain⟨ma,mc,rfl,-,m2,-⟩:=bC.open;unfold maxLen at m2;have j1:(0:Int)<=(k:Int):=bf;have j2:(k:Int)<(N:Int):=ac;clear h0 hy bC cC he;have hnc:=Aa (show True from trivial);go_upto_region 4 with fail
  obtain⟨XB,aR⟩:∃B,w1.heap.size=B:=⟨_,rfl⟩;have e2:=AI w1 (.cells #[e.tp,e.sc,e.side,.slice ma e.msg.length mc] 176);have y0:(w1.alloc (.cells #[e.tp,e.sc,e.side,.slice ma e.msg.length mc] 176)).cell? (XB,0)=some (.int .i64 e.tp):=by rw[<-aR];simp
  have y1:(w1.alloc (.cells #[e.tp,e.sc,e.side,.slice ma e.msg.length mc] 176)).cell? (XB,1)=some (.int .i64 e.sc):=by rw[<-aR];simp
  have y2:(w1.alloc (.cells #[e.tp,e.sc,e.side,.slice ma e.msg.length mc] 176)).cell? (XB,2)=some (.int .i64 e.side):=by rw[<-aR];simp
  have y3:(w1.alloc (.cells #[e.tp,e.sc,e.side,.slice ma e.msg.length mc] 176)).cell? (XB,3)=some (.slice ma e.msg.length mc):=by rw[<-aR];simp
  obtain⟨cJ,bF,bI,aY⟩:=Eq (Gp.stt.new aC.o e2 (B:=XB) ac) (Gp.stt.ex _ _ _ aC.o e2) (Gp.stt.keeps aC.o e2) (fun hd=>cK.o (Gp.stt.dx _ _ _ _ aC.o e2 hd));have bR:=Aa (cH.o.keep bI.o);have bP:=Aa (cF.o.keep bI.o);replace b0:=e2.cell b0;replace b1:=e2.cell b1;replace c0:=e2.cell c0;clear r0 q0 q1 q2 q3
  try simp only[aR]
  clear aR e2;generalize w1.alloc (.cells #[e.tp,e.sc,e.side,.slice ma e.msg.length mc] 176)=w2 at *;obtain⟨T,hT⟩:=nA (Na k tl);obtain⟨U,hU⟩:∃T,Na k sl=T:=⟨_,rfl⟩;have hy:=aA.o;rw[hT,hU]at hy;obtain⟨aA,Y0,Y1,Y2,Y3,B0,B1⟩:=OK hy y0 y1 y2 y3 b0 b1;clear hy;go_upto_if 25 with fail
  go_cut [8,9] from 24 to 37 (fun s8 s9 wx=>s8= .int .i64 T/\s9= .int .i64 U/\Hia (Ex w2 wx))
  case first=>
   by_cases hk0:k=0
   .have cU:decide ((k:Int) > 0)=false:=by simp;omega
    have bL:decide ((0:Int)<(k:Int))=false:=aq;have aW:decide (0<k)=false:=aq;have cQ:¬0<k:=ac;have aX:=Aa (show T=0/\U=0 from by rw[<-hT,<-hU];unfold Na;rw[if_pos hk0,if_pos hk0];exact⟨rfl,rfl⟩);clear hT hU hk0;go_wp2_with fail
    go_meet
    exact⟨by rw[aX.o.1],by rw[aX.o.2],Aa (Ex.refl _)⟩
   .have cU:decide ((k:Int) > 0)=true:=by simp;omega
    have bL:decide ((0:Int)<(k:Int))=true:=aq;have aW:decide (0<k)=true:=aq;have cQ:0<k:=ac;have aU:=dD.o hk0;have aV:0<tl.length:=List.length_pos_iff.2 aU;obtain⟨z,aT⟩:∃z,tl.length=z+1:=⟨tl.length-1,ac⟩;have bU:sl.length=z+1:=by rw[cI.o,aT]
    have aX:=Aa (show tl.getD z 0=T/\sl.getD z 0=U from by
     rw[<-hT,<-hU];unfold Na;rw[if_neg hk0,if_neg hk0,aT,bU];exact⟨rfl,rfl⟩)
    obtain⟨_,_,cN,-,-,t3⟩:=bR.o.1.open;injection cN with hta1 hta2 hta3;subst hta1;obtain⟨_,_,cO,-,-,s3⟩:=bP.o.1.open;injection cO with hsa1 hsa2 hsa3;subst hsa1;obtain⟨tb,bB,rfl,bV⟩:=t3 aV;obtain⟨sb,so,rfl,bY⟩:=s3 ac;have cX:=bV z T (by rw[<-aX.o.1];exact AS ac);have cY:=bY z U (by rw[<-aX.o.2];exact AS ac);have hz64:z<=63:=by have:=HH.o.n64;omega
    have dH:=Aa (show wrap64 ((tl.length:Int)-1)=(z:Int) from by rw[show(tl.length:Int)-1=(z:Int) from ac];exact w64 ac ac);have dG:=Aa (show IntKind.i64.wrap ((tl.length:Int)-1)=(z:Int) from by rw[show(tl.length:Int)-1=(z:Int) from ac];exact IntWalk.i64_in _ ac);have k1:(0:Int)<=(z:Int):=by omega
    have k2:(z:Int)<(tl.length:Int):=ac;have k4:(z:Int)<(sl.length:Int):=ac;clear hT hU hk0 aU bV bY hta2 hta3 hsa2 hsa3 aV aT bU t3 s3 y0 y1 y2 y3;go_wp2_with fail
    have i6:=dH.o;have i7:=dG.o;have aI:=Aa (show w2.cell? (B,0)=some (.slice (some (tb,bB)) tl.length tc)/\w2.cell? (B,1)=some (.slice (some (sb,so)) sl.length sc)/\w2.cell? (tb,bB+z)=some (.int .i64 T)/\w2.cell? (sb,so+z)=some (.int .i64 U) from⟨b0,b1,cX,cY⟩)
    go_region_held3 (fun w'=>w'.cell? (B,0)=some (.slice (some (tb,bB)) tl.length tc)/\w'.cell? (B,1)=some (.slice (some (sb,so)) sl.length sc)/\w'.cell? (tb,bB+z)=some (.int .i64 T)/\w'.cell? (sb,so+z)=some (.int .i64 U)) (exact aI.o) (fail)
    clear i6 i7;go_wp2_with fail
    go_meet
    exact⟨rfl,rfl,Aa ((Ex.refl _).drew)⟩
  case rest=>
   obtain⟨rfl,rfl,hx⟩:=hcut;have aJ:=Aa hx.o;have bS:=Aa (Gp.stt.ex _ _ _ bF.o aJ.o);have bH:=Aa (Gp.stt.keeps bF.o aJ.o);clear hx y0 y1 y2 y3 b0 b1 c0 hT hU;obtain⟨bX,cB⟩:=bS.o.next cS;have aM:=Aa bX;have aK:=Aa cB;have c0:=bS.o.c;have f0:=bS.o.f;have aH:=Aa (fun hd=>cJ.o (Gp.stt.dx _ _ _ _ bF.o aJ.o hd));have aP:=Aa (fun hd=>aY.o (Gp.stt.dx _ _ _ _ bF.o aJ.o hd));have y0:=aK.o.cell aH.o (aJ.o.cell Y0.o);have y1:=aK.o.cell aH.o (aJ.o.cell Y1.o);have y2:=aK.o.cell aH.o (aJ.o.cell Y2.o);have y3:=aK.o.cell aH.o (aJ.o.cell Y3.o);have b0:=aK.o.cell aP.o (aJ.o.cell B0.o);have b1:=aK.o.cell aP.o (aJ.o.cell B1.o);have bQ:=Aa ((bR.o.keep bH.o).keep aK.o);have bO:=Aa ((bP.o.keep bH.o).keep aK.o);have aZ:=Aa (bA.o.trans (bI.o.trans (bH.o.trans aK.o)));have s0:=aM.o.ex.cell HH.o.sb;have a4:=aM.o.ex.cell HH.o.pr.c4;have fb:=aM.o.fb;have hkm:(k:Int)+1<=9223372036854775807:=ac;clear bX cB bH cJ aH cK aY aP Y0 Y1 Y2 Y3 B0 B1 cH cF bR bP aC bA bI aK;obtain⟨wD,bJ⟩:=nA (wc.setCell (AB,0) (.int .i64 ((k:Int)+1)));rw[bJ]at aM y0 y1 y2 y3 b0 b1 bQ bO aZ s0 a4 fb;go_upto_region 9 with fail
   try simp only[bJ]
   clear bJ c0 f0;by_cases h1:e.tp=T/\e.sc=U
   .obtain⟨aL,bN⟩:=h1;have n1:(e.tp !=T)=false:=by simp[aL]
    have n2:(e.sc !=U)=false:=by simp[bN]
    have hy:=aA.o;rw[if_neg (by simp[aL,bN])]at hy;have aA:=Aa hy;clear aL bN hy;obtain⟨Lm,bE⟩:∃L,e.msg.length=L:=⟨_,rfl⟩;have dF:=Aa bE;have hy:=aA.o;rw[bE]at y3 hy;have aA:=Aa hy;simp only[bE];clear bE hy;obtain⟨Q,hQ⟩:=nA (decide (e.side=-1/\Lm=0/\tl.length<n));have HQ:=Aa hQ;have aI:=Aa (show wD.cell? (XB,2)=some (.int .i64 e.side)/\wD.cell? (XB,3)=some (.slice ma Lm mc)/\wD.cell? (B,0)=some (.slice ta tl.length tc)/\wD.cell? (SB,0)=some (.pointer (some (A,0)))/\wD.cell? (A,4)=some (.int .i64 n) from⟨y2,y3,b0,s0,a4⟩);clear hQ;go_upto_region 11 with fail
    go_cut [51] from 52 to 93 (fun cL wx=>cL= .bool Q/\Hia (Ex wD wx))
    case first=>
     clear y0 y1 y2 y3 b0 b1 s0 a4 fb;by_cases hA:e.side=-1
     .have a1:(e.side==-1)=true:=by simpa using hA
      by_cases hBm:Lm=0
      .have a2:((Lm:Int)==0)=true:=by simp;omega
       have cZ:(Lm==0)=true:=by simpa using hBm
       by_cases hCm:tl.length<n
       .have a3:decide ((tl.length:Int)<(n:Int))=true:=by simp;omega
        have cW:decide (tl.length<n)=true:=by simpa using hCm
        have aO:=Aa (show Q=true from by rw[<-HQ.o];exact decide_eq_true ⟨hA,hBm,hCm⟩);exact zbH
       .have a3:decide ((tl.length:Int)<(n:Int))=false:=by simp;omega
        have cW:decide (tl.length<n)=false:=by simpa using hCm
        have aO:=Aa (show Q=false from by rw[<-HQ.o];exact decide_eq_false fun h=>hCm h.2.2);exact zbH
      .have a2:((Lm:Int)==0)=false:=by simp;omega
       have cZ:(Lm==0)=false:=by simpa using hBm
       have aO:=Aa (show Q=false from by rw[<-HQ.o];exact decide_eq_false fun h=>hBm h.2.1);exact zbJ
     .have a1:(e.side==-1)=false:=by simpa using hA
      have aO:=Aa (show Q=false from by rw[<-HQ.o];exact decide_eq_false fun h=>hA h.1);exact zbJ
    case rest=>
     obtain⟨rfl,hx⟩:=hcut;have aN:=Aa hx.o;have aG:=Aa (Gp.stt.ex _ _ _ aM.o aN.o);have bG:=Aa (Gp.stt.keeps aM.o aN.o);have cG:=Aa (bQ.o.keep bG.o);have cE:=Aa (bO.o.keep bG.o);have aS:=Aa (aZ.o.trans bG.o);have y2':=aN.o.cell aI.o.1;have y3':=aN.o.cell aI.o.2.1;have b0':=aN.o.cell aI.o.2.2.1;have b1':=aN.o.cell b1;have s0':=aN.o.cell aI.o.2.2.2.1;have fb':=aN.o.cell fb;clear hx y0 y1 y2 y3 b0 b1 s0 a4 fb aI aM bQ bO aZ bG;have hy:=aA.o
     cases Q with
     | true=>
      have hq:=of_decide_eq_true HQ.o;rw[if_pos hq]at hy;subst hy;have dA:=Aa (HX.o hq.2.2 _ aG.o cG.o cE.o);clear hq HX;go_wp2_with (go_at_call 181;refine dA.o.mono ?_;rintro e9 w9⟨rfl,h9,cD⟩;have H9:=Aa h9;have dI:=Aa cD;clear h9 cD)
      go_ret;exact⟨rfl,H9.o,aS.o.trans dI.o⟩
     | false=>
      have hq:=of_decide_eq_false HQ.o;rw[if_neg hq]at hy;have aA:=Aa hy;clear hq hy HX;have aQ:=aG.o.ex;have aB:=Aa (Uf wc (HH.o.gf.ex aQ) HH.o.x1 HH.o.x2 A n HH.o.n64 v1 v2 (HH.o.pr.ex aQ) l1 l2 (HH.o.m1.ex aQ) (HH.o.m2.ex aQ) HH.o.r1 HH.o.r2 HH.o.k1 HH.o.k2 tl sl _ _ cG.o.1 cE.o.1 cI.o cM dC.o e.side e.msg _ (dE.o.ex aQ));rw[dF.o]at aB;obtain⟨W,hW⟩:=nA (Ps p m ml l1 l2 tl sl e.side e.msg);rw[hW]at aB;have hy:=aA.o;rw[hW]at hy;have aA:=Aa hy;clear hW hy aQ;by_cases hs0:e.side=0
      .have a1:(e.side==0)=true:=by simpa using hs0
       have hy:=aA.o;have dB:=Aa hs0;clear hs0
       cases W with
       | true=>
        rw[if_pos ⟨.inl dB.o,rfl⟩]at hy;exact zbt
       | false=>
        exact zbq
      .have a1:(e.side==0)=false:=by simpa using hs0
       by_cases hs1:e.side=1
       .have a2:(e.side==1)=true:=by simpa using hs1
        have hy:=aA.o;have bT:=Aa hs1;clear hs0 hs1
        cases W with
        | true=>
         rw[if_pos ⟨.inr bT.o,rfl⟩]at hy;exact zbt
        | false=>
         exact zbq
       .have a2:(e.side==1)=false:=by simpa using hs1
        have hy:=aA.o;rw[if_neg (by
         rintro⟨h|h,_⟩
         .exact hs0 h
         .exact hs1 h)]at hy
        subst hy;clear hs0 hs1;go_wp2_with fail
        go_ret;exact⟨rfl,aG.o,aS.o⟩
   .have hy:=aA.o;rw[if_pos (by
     by_cases h:e.tp=T
     .exact .inr fun h2=>h1 ⟨h,h2⟩
     .exact .inl h)]at hy
    subst hy;by_cases aL:e.tp=T
    .have n1:(e.tp !=T)=false:=by simp[aL]
     have n2:(e.sc !=U)=true:=by simp;exact fun h2=>h1 ⟨aL,h2⟩
     clear h1 aL;go_wp2_with fail
     go_ret;exact⟨rfl,aM.o,aZ.o⟩
    .have n1:(e.tp !=T)=true:=by simpa using aL
     clear h1 aL;go_wp2_with fail
     go_ret;exact⟨rfl,aM.o,aZ.o⟩
def Jp(AB RB SB FB:Nat):Value:= .func (.func 180) #[] #[.pointer (some (AB,0)),.pointer (some (RB,0)),.pointer (some (SB,0)),.pointer (some (FB,0))]
theorem R5{p m:Nat}{ml:List Int}{l1 l2:List (List Int)}{n A b x0 RB SB AB FB:Nat}{v1 v2 ev:Value}{es:List Rf}{wS:World}(H:CkE p m ml l1 l2 n A b x0 RB SB v1 v2 ev es wS):
  ∀(d k:Nat) (w:World) (tl sl:List Int) (tv sv:Value),tl.length+d=n->sl.length=tl.length->BB tl n=true->(k≠0->tl≠ [])->Gp wS AB FB (Jp AB RB SB FB) es.length k w->C6 (T5 AB) w tv tl->C6 (T5 AB) w sv sl->
  Calls Tryz.prog 180 #[.agg #[tv,sv],.pointer (some (AB,0)),.pointer (some (RB,0)),.pointer (some (SB,0)),.pointer (some (FB,0))] w fun r w'=>r= .returned (.int .i64 (Xb p m ml l1 l2 n es d k tl sl).2)/\Gp wS AB FB (Jp AB RB SB FB) es.length (Xb p m ml l1 l2 n es d k tl sl).1 w'/\AO (T5 AB) w w':=by
 intro d
 induction d with
 | zero=>
  intro k w tl sl tv sv hd aA aB aD hs ht aC;show Calls _ _ _ _ fun r w'=>r= .returned (.int .i64 (Vf p m ml l1 l2 n es k tl sl (k+1,13)).2)/\Gp wS AB FB (Jp AB RB SB FB) es.length (Vf p m ml l1 l2 n es k tl sl (k+1,13)).1 w'/\AO (T5 AB) w w'
  exact JU H (Jp AB RB SB FB) k w tl sl tv sv _ ac aA aB aD hs ht aC fun h=>absurd hd ac
 | succ d ih=>
  intro k w tl sl tv sv hd aA aB aD hs ht aC;show Calls _ _ _ _ fun r w'=>r= .returned (.int .i64 (Vf p m ml l1 l2 n es k tl sl (Eh (Xb p m ml l1 l2 n es d) (p^m) tl sl n (k+1))).2)/\Gp wS AB FB (Jp AB RB SB FB) es.length (Vf p m ml l1 l2 n es k tl sl (Eh (Xb p m ml l1 l2 n es d) (p^m) tl sl n (k+1))).1 w'/\AO (T5 AB) w w'
  refine JU H (Jp AB RB SB FB) k w tl sl tv sv _ ac aA aB aD hs ht aC fun hn w' hb aH aJ=>?_;have hq:=H.gf.sh.q;have hq2:=H.gf.sh.p2;have hN64:=H.n64;exact ZT Gp.stt (Xb p m ml l1 l2 n es d) w' A b n (p^m) (Nat.pow_pos ac) hq H.n64 _ _ _ _ tl sl tv sv (fun s1 w1 h1=>⟨h1.ex.cell H.pr.c0,h1.ex.cell H.pr.c4,Cs w1 (H.gf.ex h1.ex)⟩) (fun s1 w1 j c aE aF h1 hj hc hc1 hcq aG aI=>ih s1 w1 (tl ++ [(j:Int)]) (sl ++ [(c:Int)]) aE aF (by rw[List.length_append];simp;omega) (by simp[aA]) (I7 aB hj) (fun _=>ag) h1 aG aI) ac ac _ hb aH aJ
end Go.Proofs.YtehieobniamagaaGreat
