/- Walk of equivalence.Refute. -/
import Derived.Test.YtgdmlmhpineibaaGreatZg39
namespace Go.Proofs.YtgdmlmhpineibaaGreat
set_option linter.unusedVariables false
set_option linter.unusedSimpArgs false
set_option maxRecDepth 100000
set_option maxHeartbeats 8000000
section
open Go.RowKit
structure Rf where
 tp:Int
 sc:Int
 side:Int
 msg:List Int
def Rf.cells (e:Rf) (mv:Value):List Value:= [.int .i64 e.tp,.int .i64 e.sc,.int .i64 e.side,mv]
def rfC:List Rf→List Value→List Value
 | e :: es,v :: vs=> e.cells v ++ rfC es vs
 | _,_=> []
theorem rfC_len:∀(es:List Rf) (vs:List Value),vs.length=es.length→(rfC es vs).length=es.length * 4
 | [], [],_=> rfl
 | [],v :: vs,h=> by simp at h
 | e :: es, [],h=> by simp at h
 | e :: es,v :: vs,h=> by
  have:=rfC_len es vs (by simpa using h);show (e.cells v ++ rfC es vs).length=_
  rw [List.length_append,this];simp [Rf.cells];omega
theorem rfC_snoc:∀(es:List Rf) (vs:List Value) (e:Rf) (v:Value),vs.length=es.length→rfC (es ++ [e]) (vs ++ [v])=rfC es vs ++ e.cells v
 | [], [],e,v,_=> by simp [rfC]
 | [],u :: vs,e,v,h=> by simp at h
 | x :: es, [],e,v,h=> by simp at h
 | x :: es,u :: vs,e,v,h=> by
  show x.cells u ++ rfC (es ++ [e]) (vs ++ [v])=x.cells u ++ rfC es vs ++ e.cells v
  rw [rfC_snoc es vs e v (by simpa using h),List.append_assoc]
def ndR (x:Nd):Rf:=⟨x.tl.getD (x.tl.length - 1) 0,x.sc.getD (x.sc.length - 1) 0,x.side,x.msg⟩
def rfOf:List Nd→List Rf
 | []=> []
 | x :: t=> ⟨0,0,x.side,x.msg⟩ :: t.map ndR
theorem rfOf_len (L:List Nd):(rfOf L).length=L.length:=by cases L <;> simp [rfOf]
theorem rfOf_snoc (L:List Nd) (x:Nd):rfOf (L ++ [x])=rfOf L ++ [if L= [] then ⟨0,0,x.side,x.msg⟩ else ndR x]:=by
 cases L with
 | nil=> simp [rfOf]
 | cons y t=> simp [rfOf]
def RSl (w:World) (v:Value) (es:List Rf):Prop:=∃mvs:List Value,mvs.length=es.length∧Sl w v es.length 4 (rfC es mvs)∧∀(i:Nat) (e:Rf) (mv:Value),es[i]?=some e→mvs[i]?=some mv→ISl w mv e.msg
theorem RSl.ex {w w':World} {v:Value} {es:List Rf} (h:RSl w v es) (hx:Ex w w'):RSl w' v es:=by
 obtain ⟨m,h1,h2,h3⟩:=h;exact ⟨m,h1,h2.ex hx,fun i e mv a b=> (h3 i e mv a b).ex hx⟩
theorem RSl.nil (w:World):RSl w (.slice none 0 0) []:=⟨[],rfl,Sl.nil w 4,fun i e mv h=> by simp at h⟩
theorem infoRf:(Tryz.prog.info? 78).map (fun i=> (i.zero,i.size,i.bytes))=some (some (.agg #[.int .i64 0,.int .i64 0,.int .i64 0,.slice none 0 0]),4,48):=by kernel_rfl
def DM3 (A NB RB:Nat):World→Nat→Prop:=fun w X=> X=A∨X=NB∨X=RB∨∃ev,w.cell? ⟨NB,0,none⟩=some ev∧ev.ownBlock=some X
structure RSt (w2:World) (A NB RB b n:Nat) (v1 v2:Value) (s:Nat × List Nd) (w:World):Prop where
 sw:SrW w2 A b n v1 v2 s w
 ne:A < NB
 rb:RB < w2.heap.size
 en:∃ev mvs,w.cell? ⟨NB,0,none⟩=some ev∧w.ownsRow (NB + 1) 78 4 ev s.2.length (rfC (rfOf s.2) mvs)∧mvs.length=s.2.length∧∀(i:Nat) (e:Rf) (mv:Value),(rfOf s.2)[i]?=some e→mvs[i]?=some mv→PrS (DM3 A NB RB) w mv e.msg
 f0:w.frozen? ⟨NB,0,none⟩=false
section
variable {w2 w w':World} {A NB RB b n:Nat} {v1 v2:Value} {s:Nat × List Nd}
theorem RSt.dm (h:RSt w2 A NB RB b n v1 v2 s w) (hx:Ex w w') {X:Nat} (hd:DM3 A NB RB w' X):DM3 A NB RB w X:=by
 rcases hd with hd | hd | hd | ⟨ev,h1,h2⟩
 ·exact .inl hd
 ·exact .inr (.inl hd)
 ·exact .inr (.inr (.inl hd))
 ·obtain ⟨ev',m,h3,-⟩:=h.en;rw [hx.cell h3] at h1;injection h1 with h1;subst h1;exact .inr (.inr (.inr ⟨_,h3,h2⟩))
theorem RSt.keeps (h:RSt w2 A NB RB b n v1 v2 s w) (hx:Ex w w'):Keeps (DM3 A NB RB) w w':=
 ⟨hx.size,fun B hB hn=> ⟨hx.block B hB,fun hd=> hn (h.dm hx hd)⟩⟩
theorem RSt.stt:Stt (RSt w2 A NB RB b n v1 v2) (DM3 A NB RB) where
 ex:=fun s w w' h hx=> by
  obtain ⟨ev,mvs,h1,h2,h3,h4⟩:=h.en;exact ⟨h.sw.later hx,h.ne,h.rb,⟨ev,mvs,hx.cell h1,ownsRow_ex h2 hx,h3,fun i e mv a b=> (h4 i e mv a b).keep (h.keeps hx)⟩,hx.frz h1 h.f0⟩
 lt:=fun s w B h hd=> by
  obtain ⟨ev,mvs,h1,h2,-⟩:=h.en;rcases hd with rfl | rfl | rfl | ⟨ev',h3,h4⟩
  ·exact World.block_lt_of_cell? _ _ h.sw.c11
  ·exact World.block_lt_of_cell? _ _ h1
  ·exact Nat.lt_of_lt_of_le h.rb h.sw.ex.size
  ·rw [h1] at h3;injection h3 with h3;subst h3;exact (h2.lt B h4).2
 dx:=fun s w w' B h hx hd=> h.dm hx hd
theorem RSt.seen (h:RSt w2 A NB RB b n v1 v2 s w) (hs:s.1 < 65536):RSt w2 A NB RB b n v1 v2 (s.1 + 1,s.2) (w.setCell ⟨A,11,none⟩ (.int .i64 ((s.1:Int) + 1)))∧Keeps (DM3 A NB RB) w (w.setCell ⟨A,11,none⟩ (.int .i64 ((s.1:Int) + 1))):=by
 have hne:A≠NB:=by have:=h.ne;omega
 have hcell:∀u:Value,(w.setCell ⟨A,11,none⟩ u).cell? ⟨NB,0,none⟩=w.cell? ⟨NB,0,none⟩:=fun u=> cell_setCell_ne hne;have hk:Keeps (DM3 A NB RB) w (w.setCell ⟨A,11,none⟩ (.int .i64 ((s.1:Int) + 1))):=keeps_set (.inl rfl) fun X hd=> by
  rcases hd with hd | hd | hd | ⟨ev,h1,h2⟩
  ·exact .inl hd
  ·exact .inr (.inl hd)
  ·exact .inr (.inr (.inl hd))
  ·rw [hcell] at h1;exact .inr (.inr (.inr ⟨ev,h1,h2⟩))
 obtain ⟨ev,mvs,h1,h2,h3,h4⟩:=h.en;refine ⟨⟨h.sw.seen hs,h.ne,h.rb,⟨ev,mvs,by rw [hcell];exact h1,ownsRow_setCell_ne (a:=⟨A,11,none⟩) h2 (fun e=> ?_) _,h3,fun i e mv a b=> (h4 i e mv a b).keep hk⟩,by rw [efrz_set];exact h.f0⟩,hk⟩;have:=(h2.lt A e).1;have:=h.ne;omega
theorem RSt.app (h:RSt w2 A NB RB b n v1 v2 s w) (hl:s.2.length < s.1) {ev:Value} {x:Nd} {mv v':Value} {mvs:List Value} (hc:w.cell? ⟨NB,0,none⟩=some ev) (h2:w.ownsRow (NB + 1) 78 4 ev s.2.length (rfC (rfOf s.2) mvs)) (h3:mvs.length=s.2.length) (h4:∀(i:Nat) (e:Rf) (mv:Value),(rfOf s.2)[i]?=some e→mvs[i]?=some mv→PrS (DM3 A NB RB) w mv e.msg) (hm:PrS (DM3 A NB RB) w mv x.msg)
  (ha:Appd w w' (NB + 1) 78 4 ev v' s.2.length (rfC (rfOf s.2) mvs) ((if s.2= [] then (⟨0,0,x.side,x.msg⟩:Rf) else ndR x).cells mv)) (hb:w2.heap.size≤A):
  RSt w2 A NB RB b n v1 v2 (s.1,s.2 ++ [x]) (w'.setCell ⟨NB,0,none⟩ v')∧Keeps (DM3 A NB RB) w (w'.setCell ⟨NB,0,none⟩ v'):=by
 have hne:some NB≠ev.ownBlock:=fun e=> by have:=(h2.lt NB e.symm).1;omega
 have hnA:some A≠ev.ownBlock:=fun e=> by have:=(h2.lt A e.symm).1;have:=h.ne;omega
 have hcN:=ha.cell hc hne;have hlt:NB < w.heap.size:=World.block_lt_of_cell? _ _ hc;have hnew:v'.ownBlock≠some NB:=fun e=> by
  rcases ha.at_ with h5 | h5
  ·rw [h5] at e;exact hne e.symm
  ·rw [h5] at e;injection e with e;omega
 have hkeep:Keeps (DM3 A NB RB) w (w'.setCell ⟨NB,0,none⟩ v'):=by
  obtain ⟨o,hg⟩:=ha.gr;refine ⟨by rw [heap_size_set];exact Nat.le_of_lt ha.grow,fun B hB hn=> ⟨?_,?_⟩⟩
  ·have hBN:B≠NB:=fun e=> hn (.inr (.inl e));have h5:(w'.setCell ⟨NB,0,none⟩ v').heap[B]?=w'.heap[B]?:=Below.heap_setCell w' ⟨NB,0,none⟩ v' B hBN;rw [h5,hg.block B (by simp;omega) (fun e=> hn (.inr (.inr (.inr ⟨ev,hc,e.symm⟩))))];show (w.heap.push o)[B]?=_
   exact Array.getElem?_push_lt hB ▸ (by simp [hB])
  ·rintro (hd | hd | hd | ⟨ev2,h5,h6⟩)
   ·exact hn (.inl hd)
   ·exact hn (.inr (.inl hd))
   ·exact hn (.inr (.inr (.inl hd)))
   ·rw [World.cell?_setCell_same _ _ _ hcN] at h5;injection h5 with h5;subst h5;rcases ha.at_ with h7 | h7
    ·rw [h7] at h6;exact hn (.inr (.inr (.inr ⟨ev,hc,h6⟩)))
    ·rw [h7] at h6;injection h6 with h6;omega
 refine ⟨⟨?_,h.ne,h.rb,⟨v',mvs ++ [mv],World.cell?_setCell_same _ _ _ hcN,?_,by simp [h3],fun i e u hi hu=> ?_⟩,by rw [efrz_set];exact ha.frz hc h.f0 hne⟩,hkeep⟩
 ·have hxa:Ex w2 w':=ha.ex h.sw.ex (by have:=h.ne;omega);have hsw:SrW w2 A b n v1 v2 s w':=⟨hxa,⟨ha.cell h.sw.pr.c0 hnA,ha.cell h.sw.pr.c4 hnA,ha.cell h.sw.pr.c5 hnA,ha.cell h.sw.pr.c10 hnA⟩,ha.cell h.sw.c11 hnA,ha.frz h.sw.c11 h.sw.f11 hnA,h.sw.l1,h.sw.l2,h.sw.lb⟩;exact (hsw.other (by have:=h.ne;omega) (by have:=h.ne;omega) v').note hl x
 ·have h5:=ownsRow_setCell_ne (a:=⟨NB,0,none⟩) ha.own hnew v';show (w'.setCell ⟨NB,0,none⟩ v').ownsRow _ _ _ _ (s.2 ++ [x]).length (rfC (rfOf (s.2 ++ [x])) (mvs ++ [mv]))
  rw [List.length_append,rfOf_snoc,rfC_snoc _ _ _ _ (by rw [h3,rfOf_len])];exact h5
 ·have hi':(rfOf (s.2 ++ [x]))[i]?=some e:=hi;rw [rfOf_snoc] at hi';by_cases hil:i < s.2.length
  ·rw [List.getElem?_append_left (by rw [rfOf_len];exact hil)] at hi';rw [List.getElem?_append_left (by rw [h3];exact hil)] at hu;exact (h4 i e u hi' hu).keep hkeep
  ·rw [List.getElem?_append_right (by rw [rfOf_len];omega)] at hi';rw [List.getElem?_append_right (by rw [h3];omega)] at hu;rw [rfOf_len] at hi';rw [h3] at hu;have h0:i - s.2.length=0:=by
    have:=(List.getElem?_eq_some_iff.1 hi').1;simp at this;omega
   rw [h0] at hi' hu;simp at hi' hu;subst hu;have:e.msg=x.msg:=by rw [←hi'];split <;> rfl
   rw [this];exact hm.keep hkeep
theorem rft_note (h:RSt w2 A NB RB b n v1 v2 s w) (hl:s.2.length < s.1) {tl sl msg:List Int} {side:Int} {tv sv mv:Value} (ht:PrS (DM3 A NB RB) w tv tl) (hs:PrS (DM3 A NB RB) w sv sl) (hm:PrS (DM3 A NB RB) w mv msg) (h64:tl.length≤64) (hsl:sl.length=tl.length) (hne:s.2≠ []→tl≠ []):
  Calls Tryz.prog 69 #[.agg #[tv,sv],.int .i64 side,mv,.pointer (some ⟨NB,0,none⟩)] w fun r w'=> (∃t,r= .returned t)∧RSt w2 A NB RB b n v1 v2 (s.1,s.2 ++ [⟨tl,sl,side,msg⟩]) w'∧Keeps (DM3 A NB RB) w w':=by
 obtain ⟨b0,b1,e1,hz1⟩:=boxP_facts w tv sv;have e2:=e_al (w.alloc (.cells #[tv,sv] 49)) (.cells #[.int .i64 0,.int .i64 0,.int .i64 side,mv] 78);have x0:((w.alloc (.cells #[tv,sv] 49)).alloc (.cells #[.int .i64 0,.int .i64 0,.int .i64 side,mv] 78)).cell? ⟨w.heap.size + 1,0,none⟩=some (.int .i64 0):=by rw [←hz1];simp
 have x1:((w.alloc (.cells #[tv,sv] 49)).alloc (.cells #[.int .i64 0,.int .i64 0,.int .i64 side,mv] 78)).cell? ⟨w.heap.size + 1,1,none⟩=some (.int .i64 0):=by rw [←hz1];simp
 have x2:((w.alloc (.cells #[tv,sv] 49)).alloc (.cells #[.int .i64 0,.int .i64 0,.int .i64 side,mv] 78)).cell? ⟨w.heap.size + 1,2,none⟩=some (.int .i64 side):=by rw [←hz1];simp
 have x3:((w.alloc (.cells #[tv,sv] 49)).alloc (.cells #[.int .i64 0,.int .i64 0,.int .i64 side,mv] 78)).cell? ⟨w.heap.size + 1,3,none⟩=some mv:=by rw [←hz1];simp
 have xf0:((w.alloc (.cells #[tv,sv] 49)).alloc (.cells #[.int .i64 0,.int .i64 0,.int .i64 side,mv] 78)).frozen? ⟨w.heap.size + 1,0,none⟩=false:=by rw [←hz1];simp
 have xf1:((w.alloc (.cells #[tv,sv] 49)).alloc (.cells #[.int .i64 0,.int .i64 0,.int .i64 side,mv] 78)).frozen? ⟨w.heap.size + 1,1,none⟩=false:=by rw [←hz1];simp
 replace b0:=e2.cell b0;replace b1:=e2.cell b1;have hx:=e1.trans e2;obtain ⟨ev,mvs,c0,ho,hml,-⟩:=(RSt.stt.ex _ _ _ h hx).en;obtain ⟨ea,ec,rfl⟩:=own_shape ho;have c0w:w.cell? ⟨NB,0,none⟩=some (.slice ea s.2.length ec):=by
  obtain ⟨ev',_,h1,_⟩:=h.en;rw [hx.cell h1] at c0;rw [h1];exact c0
 obtain ⟨ta,tc,rfl,-,t2,t3⟩:=ht.1.open;obtain ⟨sa,sc,rfl,-,s2,s3⟩:=hs.1.open;obtain ⟨ma,mc,rfl,-,m2,-⟩:=hm.1.open;unfold maxLen at t2 s2 m2;have hNlt:NB < w.heap.size:=World.block_lt_of_cell? _ _ c0w;have HH:=hid_ h;have HT:=hid_ ht;have HS:=hid_ hs;have HM:=hid_ hm;have HX:=hid_ hx;have HC0:=hid_ c0w;have HL1:=hid_ h.sw.l2;have HLB:=hid_ h.sw.lb;have T3:=hid_ t3;have S3:=hid_ s3;have HSL:=hid_ hsl;obtain ⟨B,hB⟩:∃B,w.heap.size=B:=⟨_,rfl⟩;rw [hB] at b0 b1 x0 x1 x2 x3 xf0 xf1 hNlt;have HWB:=hid_ hB;have HOO:=hid_ ho;have HLN:=hid_ hl;obtain ⟨N,hN⟩:∃N,s.2.length=N:=⟨_,rfl⟩;have HN:=hid_ hN;rw [hN] at c0 HC0;clear h ht hs hm hx e1 e2 hz1 c0w t3 s3 hsl ho hml hl;go_enter Tryz.func69,Tryz.ntmps69
 go_upto_region 2 with fail
 try simp only [hB]
 clear hB hN;generalize (w.alloc (.cells #[.slice ta tl.length tc,.slice sa sl.length sc] 49)).alloc (.cells #[.int .i64 0,.int .i64 0,.int .i64 side,.slice ma msg.length mc] 78)=w3 at *;have HRS:=hid_ (RSt.stt.ex _ _ _ HH.out HX.out);have hsz:NB + 1≤w3.heap.size:=by have:=HX.out.size;have:=HWB.out;omega
 have HSZ:=hid_ hsz;have hN16:N≤65536:=by have:=HL1.out;have:=HLN.out;have:=HN.out;omega
 by_cases h0:N=0
 ·subst h0;have HS0:=hid_ (List.length_eq_zero_iff.1 HN.out);obtain ⟨ev',mvs',g1,g2,g3,g4⟩:=HRS.out.en;rw [c0] at g1;injection g1 with g1;subst g1;have G2:=hid_ g2;have G3:=hid_ g3;have G4:=hid_ g4;rw [HN.out] at g2;have HOW:=hid_ g2;have f0:=HRS.out.f0;have hdm:((0:Nat):Int)=0:=rfl;clear g2 g3 g4;go_wp2_with (at_builtin;refine wpList_append1 _ rfl _ _ 52 rfl (NB + 1) 78 (.agg #[.int .i64 0,.int .i64 0,.int .i64 0,.slice none 0 0]) 4 48 Tryz.underlying52 infoRf rfl (by decide) _ 0 _ rfl HOW.out [.int .i64 0,.int .i64 0,.int .i64 side,.slice ma msg.length mc] 78 _ rfl (by simp) rfl (by simp [Value.oneCell']) (by unfold maxLen;omega) (by omega) HSZ.out ?_)
  intro v6 w6 happ;have HAP:=hid_ happ;have hne:some NB≠Value.ownBlock (.slice ea 0 ec):=fun e=> by have:=(HOW.out.lt NB e.symm).1;omega
  have c6:=happ.cell c0 hne;have f6:=happ.frz c0 f0 hne;have HFIN:=hid_ (HRS.out.app (x:=⟨tl,sl,side,msg⟩) (mv:= .slice ma msg.length mc) (v':=v6) (ev:= .slice ea 0 ec) HLN.out c0 G2.out G3.out G4.out (HM.out.keep (RSt.keeps HH.out HX.out)) (by rw [HN.out,if_pos HS0.out];exact happ) HLB.out);obtain ⟨va,vc,hv⟩:=own_shape happ.own;subst hv;clear happ c0 f0 hne b0 b1 x0 x1 x2 x3 xf0 xf1;go_wp2_with fail
  go_end0
  exact ⟨⟨_,rfl⟩,HFIN.out.1,(RSt.keeps HH.out HX.out).trans HFIN.out.2⟩
 ·have hsne:s.2≠ []:=fun e=> h0 (by rw [←HN.out,e];rfl);have HTN:=hid_ (hne hsne);have HSN:=hid_ hsne;have hk:0 < tl.length:=List.length_pos_iff.2 HTN.out;obtain ⟨k,hk1⟩:∃k,tl.length=k + 1:=⟨tl.length - 1,by omega⟩;have hk2:sl.length=k + 1:=by rw [HSL.out,hk1]
  obtain ⟨tb,to_,rfl,htc⟩:=T3.out hk;obtain ⟨sb,so,rfl,hsc⟩:=S3.out (by omega);obtain ⟨X,hX⟩:∃x,tl.getD k 0=x:=⟨_,rfl⟩;obtain ⟨Y,hY⟩:∃x,sl.getD k 0=x:=⟨_,rfl⟩;have hTB:tb < B:=by have:=World.block_lt_of_cell? _ _ (htc k _ (get_getD (l:=tl) (i:=k) (by omega)));have h2:=HWB.out;simp only at this;omega
  have hSB:sb < B:=by have:=World.block_lt_of_cell? _ _ (hsc k _ (get_getD (l:=sl) (i:=k) (by omega)));have h2:=HWB.out;simp only at this;omega
  have cX:=HX.out.cell (htc k X (by rw [←hX];exact get_getD (by omega)));have cY:=HX.out.cell (hsc k Y (by rw [←hY];exact get_getD (by omega)));have HND:=hid_ (show ndR ⟨tl,sl,side,msg⟩=⟨X,Y,side,msg⟩ from by
   unfold ndR;simp only [hk1,hk2,Nat.add_sub_cancel];rw [hX,hY])
  rw [hk1] at b0;rw [hk2] at b1;have i1:(0:Int)≤(k:Int):=by omega
  have i2:(k:Int) < ((k + 1:Nat):Int):=by omega
  have i4:(k:Int) < (k:Int) + 1:=by omega
  have HI6:=hid_ (show wrap64 (k:Int)=(k:Int) from w64 (by omega) (by omega));have HI7:=hid_ (show IntKind.i64.wrap (k:Int)=(k:Int) from IntWalk.i64_in _ (by omega));have hb0:decide ((N:Int) > 0)=true:=by simp;omega
  have hb0':decide ((0:Int) < (N:Int))=true:=by simp;omega
  have hb0'':decide (0 < N)=true:=by simp;omega
  clear hX hY htc hsc hk hne hsne hk1 hk2 t2 s2;have HCC:=hid_ (show w3.cell? ⟨B,0,none⟩=some (.slice (some ⟨tb,to_,none⟩) (k + 1) tc)∧w3.cell? ⟨B,1,none⟩=some (.slice (some ⟨sb,so,none⟩) (k + 1) sc)∧w3.cell? ⟨tb,to_ + k,none⟩=some (.int .i64 X)∧w3.cell? ⟨sb,so + k,none⟩=some (.int .i64 Y) from ⟨b0,b1,cX,cY⟩);have HTS:=hid_ (show tb≠B + 1∧sb≠B + 1∧NB≠B + 1 from ⟨by omega,by omega,by omega⟩);go_wp2_with fail
  have HKP:=hid_ (fun (w':World) (j:Nat) (u:Value) (h:w'.cell? ⟨B,0,none⟩=some (.slice (some ⟨tb,to_,none⟩) (k + 1) tc)∧w'.cell? ⟨B,1,none⟩=some (.slice (some ⟨sb,so,none⟩) (k + 1) sc)∧w'.cell? ⟨tb,to_ + k,none⟩=some (.int .i64 X)∧w'.cell? ⟨sb,so + k,none⟩=some (.int .i64 Y))=> (⟨by rw [cell_setCell_ne (show B + 1≠B by omega)];exact h.1,by rw [cell_setCell_ne (show B + 1≠B by omega)];exact h.2.1,by rw [cell_setCell_ne (show B + 1≠tb by omega)];exact h.2.2.1,by rw [cell_setCell_ne (show B + 1≠sb by omega)];exact h.2.2.2⟩:(w'.setCell ⟨B + 1,j,none⟩ u).cell? ⟨B,0,none⟩=some (.slice (some ⟨tb,to_,none⟩) (k + 1) tc)∧(w'.setCell ⟨B + 1,j,none⟩ u).cell? ⟨B,1,none⟩=some (.slice (some ⟨sb,so,none⟩) (k + 1) sc)∧(w'.setCell ⟨B + 1,j,none⟩ u).cell? ⟨tb,to_ + k,none⟩=some (.int .i64 X)∧(w'.setCell ⟨B + 1,j,none⟩ u).cell? ⟨sb,so + k,none⟩=some (.int .i64 Y)));have i6:=HI6.out;have i7:=HI7.out
  go_region_held3 (fun w'=> w'.cell? ⟨B,0,none⟩=some (.slice (some ⟨tb,to_,none⟩) (k + 1) tc)∧w'.cell? ⟨B,1,none⟩=some (.slice (some ⟨sb,so,none⟩) (k + 1) sc)∧w'.cell? ⟨tb,to_ + k,none⟩=some (.int .i64 X)∧w'.cell? ⟨sb,so + k,none⟩=some (.int .i64 Y))
   (first | exact HCC.out | exact HKP.out _ _ _ HCC.out | exact HKP.out _ _ _ (HKP.out _ _ _ HCC.out)) (fail)
  clear i6 i7;obtain ⟨w5,hw5⟩:∃w5,((w3.setCell ⟨B + 1,0,none⟩ (.int .i64 X)).setCell ⟨B + 1,1,none⟩ (.int .i64 Y)).drew=w5:=⟨_,rfl⟩;have hx5:Ex w w5:=by
   rw [←hw5];exact ((HX.out.setCell (p:=⟨B + 1,0,none⟩) (by show w.heap.size≤B + 1;have:=HWB.out;omega) _).setCell (p:=⟨B + 1,1,none⟩) (by show w.heap.size≤B + 1;have:=HWB.out;omega) _).drew
  have z0:w5.cell? ⟨B + 1,0,none⟩=some (.int .i64 X):=by
   rw [←hw5];show World.cell? ((w3.setCell _ _).setCell _ _) _=_;rw [cell_set_off (by decide)];exact World.cell?_setCell_same _ _ _ x0
  have z1:w5.cell? ⟨B + 1,1,none⟩=some (.int .i64 Y):=by
   rw [←hw5];show World.cell? ((w3.setCell _ _).setCell _ _) _=_;exact World.cell?_setCell_same _ _ _ (by rw [cell_set_off (by decide)];exact x1)
  have z2:w5.cell? ⟨B + 1,2,none⟩=some (.int .i64 side):=by
   rw [←hw5];show World.cell? ((w3.setCell _ _).setCell _ _) _=_;rw [cell_set_off (by decide),cell_set_off (by decide)];exact x2
  have z3:w5.cell? ⟨B + 1,3,none⟩=some (.slice ma msg.length mc):=by
   rw [←hw5];show World.cell? ((w3.setCell _ _).setCell _ _) _=_;rw [cell_set_off (by decide),cell_set_off (by decide)];exact x3
  have HRS5:=hid_ (RSt.stt.ex _ _ _ HH.out hx5);have HX5:=hid_ hx5;have c5:=hx5.cell HC0.out;obtain ⟨ev',mvs',g1,g2,g3,g4⟩:=HRS5.out.en;rw [c5] at g1;injection g1 with g1;subst g1;have G2:=hid_ g2;have G3:=hid_ g3;have G4:=hid_ g4;rw [HN.out] at g2;have HOW:=hid_ g2;have f5:=HRS5.out.f0;have hsz5:NB + 1≤w5.heap.size:=by have:=hx5.size;have:=HWB.out;omega
  have HSZ5:=hid_ hsz5;clear g2 g3 g4 c0 x0 x1 x2 x3 xf0 xf1 b0 b1 cX cY hx5;go_wp2_with (first | (simp only [hw5];clear hw5;at_builtin;refine wpList_append1 _ rfl _ _ 52 rfl (NB + 1) 78 (.agg #[.int .i64 0,.int .i64 0,.int .i64 0,.slice none 0 0]) 4 48 Tryz.underlying52 infoRf rfl (by decide) _ N _ rfl HOW.out [.int .i64 X,.int .i64 Y,.int .i64 side,.slice ma msg.length mc] 78 _ rfl (by simp) rfl (by simp [Value.oneCell']) (by unfold maxLen;omega) (by omega) HSZ5.out ?_) | (at_builtin;refine wpList_append1 _ rfl _ _ 52 rfl (NB + 1) 78 (.agg #[.int .i64 0,.int .i64 0,.int .i64 0,.slice none 0 0]) 4 48 Tryz.underlying52 infoRf rfl (by decide) _ N _ rfl HOW.out [.int .i64 X,.int .i64 Y,.int .i64 side,.slice ma msg.length mc] 78 _ rfl (by simp) rfl (by simp [Value.oneCell']) (by unfold maxLen;omega) (by omega) HSZ5.out ?_))
  intro v6 w6 happ;have hne:some NB≠Value.ownBlock (.slice ea N ec):=fun e=> by have:=(HOW.out.lt NB e.symm).1;omega
  have c6:=happ.cell c5 hne;have f6:=happ.frz c5 f5 hne;have HFIN:=hid_ (HRS5.out.app (x:=⟨tl,sl,side,msg⟩) (mv:= .slice ma msg.length mc) (v':=v6) (ev:= .slice ea N ec) HLN.out c5 G2.out G3.out G4.out (HM.out.keep (RSt.keeps HH.out HX5.out)) (by rw [HN.out,if_neg HSN.out,HND.out];exact happ) HLB.out);obtain ⟨va,vc,hv⟩:=own_shape happ.own;subst hv;clear happ c5 f5 hne z0 z1 z2 z3;go_wp2_with fail
  go_end0
  exact ⟨⟨_,rfl⟩,HFIN.out.1,(RSt.keeps HH.out HX5.out).trans HFIN.out.2⟩
end
end
section
open Go.RowKit
structure BxR (w:World) (b:Nat):Prop where
 c0:w.cell? ⟨b,0,none⟩=some (.slice none 0 0)
 f0:w.frozen? ⟨b,0,none⟩=false
theorem BxR.new (w:World):BxR (w.alloc (.cells #[.slice none 0 0] 54)) w.heap.size:=⟨by simp,by simp⟩
theorem BxR.ex {w w':World} {b:Nat} (h:BxR w b) (hx:Ex w w'):BxR w' b:=⟨hx.cell h.c0,hx.frz h.c0 h.f0⟩
def RfR (es:List Rf) (e:Int) (r:Ending) (w':World):Prop:=∃ev,r= .returned (.tuple #[.agg #[ev],.int .i64 e])∧RSl w' ev es
def rftE (E:Int) (R:(Nat × List Nd) × Int):Int:=if E≠0 then E else if R.2=0 then 0 else if R.2=18 then 11 else R.2
def rftL (E:Int) (R:(Nat × List Nd) × Int):List Rf:=if E≠0 then [] else if R.2=0 then rfOf R.1.2 else []
theorem rft_env {w2:World} {p m n A NB RB b x0:Nat} {ml:List Int} {l1 l2:List (List Int)} {v1 v2:Value} (hg:GFat w2 b p m ml x0) (x1:1≤x0) (x2:x0 < p ^ m) (h1:MSl w2 v1 l1) (h2:MSl w2 v2 l2) (hn:n≤64) (r1:∀r∈l1,r.length=n) (r2:∀r∈l2,r.length=n) (k1:l1.length≤256) (k2:l2.length≤256):
  SrE p m ml l1 l2 n A b x0 v1 v2 (RSt w2 A NB RB b n v1 v2) (DM3 A NB RB) where
 stt:=RSt.stt
 pr:=fun s w h=> h.sw.pr
 gf:=fun s w h=> hg.ex h.sw.ex
 m1:=fun s w h=> h1.ex h.sw.ex
 m2:=fun s w h=> h2.ex h.sw.ex
 c11:=fun s w h=> ⟨h.sw.c11,h.sw.f11⟩
 le:=fun s w h=> ⟨h.sw.l1,h.sw.l2⟩
 seen:=fun s w h hs=> h.seen hs
 x1:=x1
 x2:=x2
 n64:=hn
 r1:=r1
 r2:=r2
 k1:=k1
 k2:=k2
theorem Refute_any (w:World) (c d:CdV) (m1 m2 v1 v2:Value) (hc:c.at w m1 v1) (hd:d.at w m2 v2) (tl sl:List Int) (tv sv:Value) (ht:ISl w tv tl) (hs:ISl w sv sl):
  Calls Tryz.prog 31 #[c.arg m1 v1,d.arg m2 v2,.agg #[tv,sv]] w fun r w'=> (∃e1 e2:Int,CodO c.p c.m c.ml c.n c.rows e1∧(e1=0→CodO d.p d.m d.ml d.n d.rows e2)∧RfR (rftL (stE e1 e2 (samF c.p c.m c.ml d.p d.m d.ml) c.n d.n tl sl (c.p.toNat ^ c.m.toNat)) (fndS c d tl sl)) (rftE (stE e1 e2 (samF c.p c.m c.ml d.p d.m d.ml) c.n d.n tl sl (c.p.toNat ^ c.m.toNat)) (fndS c d tl sl)) r w')∧Ex w w':=by
 obtain ⟨c0,c1,c2,c3,c4⟩:=boxC5 w c m1 v1;obtain ⟨d0,d1,d2,d3,d4⟩:=boxC5 (w.alloc (c.obj m1 v1)) d m2 v2;obtain ⟨b0,b1,e3,hz3⟩:=boxP_facts ((w.alloc (c.obj m1 v1)).alloc (d.obj m2 v2)) tv sv;have hbm:=BxR.new (((w.alloc (c.obj m1 v1)).alloc (d.obj m2 v2)).alloc (.cells #[tv,sv] 49));have hz1:(w.alloc (c.obj m1 v1)).heap.size=w.heap.size + 1:=by simp
 have hz2:((w.alloc (c.obj m1 v1)).alloc (d.obj m2 v2)).heap.size=w.heap.size + 1 + 1:=by simp
 have e1:=e_al w (c.obj m1 v1);have e2:=e_al (w.alloc (c.obj m1 v1)) (d.obj m2 v2);have e4:=e_al (((w.alloc (c.obj m1 v1)).alloc (d.obj m2 v2)).alloc (.cells #[tv,sv] 49)) (.cells #[.slice none 0 0] 54);rw [hz3,hz2] at hbm;rw [hz1] at d0 d1 d2 d3 d4;rw [hz2] at b0 b1;have hxw:=e1.trans (e2.trans (e3.trans e4));replace c0:=(e2.trans (e3.trans e4)).cell c0;replace c1:=(e2.trans (e3.trans e4)).cell c1;replace c2:=(e2.trans (e3.trans e4)).cell c2;replace c3:=(e2.trans (e3.trans e4)).cell c3;replace c4:=(e2.trans (e3.trans e4)).cell c4;replace d0:=(e3.trans e4).cell d0;replace d1:=(e3.trans e4).cell d1;replace d2:=(e3.trans e4).cell d2;replace d3:=(e3.trans e4).cell d3;replace d4:=(e3.trans e4).cell d4;replace b0:=e4.cell b0;replace b1:=e4.cell b1;obtain ⟨B,hB⟩:∃B,w.heap.size=B:=⟨_,rfl⟩;rw [hB] at c0 c1 c2 c3 c4 d0 d1 d2 d3 d4 b0 b1 hbm;have HST:=hid_ (start_any _ c d m1 m2 v1 v2 (hc.ex hxw) (hd.ex hxw) tl sl tv sv (ht.ex hxw) (hs.ex hxw));obtain ⟨ta,tc,rfl,-,t2,-⟩:=ht.open;obtain ⟨sa,sc,rfl,-,s2,-⟩:=hs.open;obtain ⟨x1,y1,rfl,-,z1,-⟩:=hc.g.open;obtain ⟨x2,y2,rfl,-,z2,-⟩:=hd.g.open;obtain ⟨x3,y3,rfl,-,z3,-⟩:=hc.m.open;obtain ⟨x4,y4,rfl,-,z4,-⟩:=hd.m.open;unfold maxLen at t2 s2 z1 z2 z3 z4;have HX:=hid_ hxw;have HC:=hid_ hc;have HD:=hid_ hd;have HT:=hid_ ht;have HS:=hid_ hs;have HBM:=hid_ hbm;have HWB:=hid_ hB;clear hc hd ht hs e1 e2 e3 e4 hz1 hz2 hz3 hxw hbm;unfold CdV.arg at HST ⊢;go_enter Tryz.func31,Tryz.ntmps31
 unfold CdV.obj at c0 c1 c2 c3 c4 d0 d1 d2 d3 d4 b0 b1 HX HBM HST;go_upto_region 1 with fail
 try simp only [hB]
 clear hB;generalize (((w.alloc (.cells #[.int .i64 c.p,.int .i64 c.m,.slice x3 c.ml.length y3,.int .i64 c.n,.slice x1 c.rows.length y1] 47)).alloc (.cells #[.int .i64 d.p,.int .i64 d.m,.slice x4 d.ml.length y4,.int .i64 d.n,.slice x2 d.rows.length y2] 47)).alloc (.cells #[.slice ta tl.length tc,.slice sa sl.length sc] 49)).alloc (.cells #[.slice none 0 0] 54)=w1 at *;have B0:=hid_ b0;have B1:=hid_ b1;go_wp2_with fail
 refine HST.out.mono ?_;rintro e w3 ⟨ho,hx3⟩;have HX3:=hid_ hx3;obtain ⟨e1,e2,ho1,ho2,ho⟩:=ho;have HO1:=hid_ ho1;have HO2:=hid_ ho2;clear c0 c1 c2 c3 c4 d0 d1 d2 d3 d4 hx3 ho1 ho2 HST b0 b1;obtain ⟨E,hE⟩:∃E,stE e1 e2 (samF c.p c.m c.ml d.p d.m d.ml) c.n d.n tl sl (c.p.toNat ^ c.m.toNat)=E:=⟨_,rfl⟩;rw [hE] at ho;have HE:=hid_ hE;rcases ho with ⟨h0,ptr,rfl⟩ | ⟨h0,w2,A,b,x0,pn,mn,nn,hp,hm,hnn,rfl,hx2,hg,hx01,hx02,hA,hx23,hpr,h11,hf11⟩
 ·have hb0:(E !=0)=true:=by simpa using h0
  obtain ⟨q0,qf0⟩:=HBM.out.ex HX3.out;have H0:=hid_ h0;clear h0 hE;go_wp2_with fail
  refine bodyPost_ret (v:= .tuple #[.agg #[.slice none 0 0],.int .i64 E]) (by simp [results,Tryz.results31,go_sem,q0]) rfl ⟨⟨e1,e2,HO1.out,HO2.out,?_⟩,(HX.out.trans HX3.out).setCell (p:=⟨B + 1 + 1 + 1,0,none⟩) (by rw [HWB.out];show B≤B + 1 + 1 + 1;omega) _⟩;rw [HE.out];unfold rftL rftE;rw [if_pos H0.out,if_pos H0.out];exact ⟨_,rfl,RSl.nil _⟩
 ·subst h0;obtain ⟨k1,k2,k3,k4,k5,k6,k7,k8,k9⟩:=stE_ok hE;subst k1;have ho2:=HO2.out rfl;subst k2;obtain ⟨kl1,kr1⟩:=codO_rows HO1.out;obtain ⟨kl2,kr2⟩:=codO_rows ho2;obtain ⟨-,kn1,kn2⟩:=codO_fld HO1.out;obtain ⟨NB,hNB⟩:∃B,w3.heap.size=B:=⟨_,rfl⟩;have hAlt:A < NB:=by rw [←hNB];exact World.block_lt_of_cell? _ _ h11
  have hxw2:=HX.out.trans hx2;have e5:=e_al w3 (.cells #[.slice none 0 0] 54);have n0:(w3.alloc (.cells #[.slice none 0 0] 54)).cell? ⟨NB,0,none⟩=some (.slice none 0 0):=by rw [←hNB];simp
  have nf0:(w3.alloc (.cells #[.slice none 0 0] 54)).frozen? ⟨NB,0,none⟩=false:=by rw [←hNB];simp
  have HENV:=hid_ (rft_env (p:=pn) (m:=mn) (n:=nn) (A:=A) (NB:=NB) (RB:=B + 1 + 1 + 1) hg hx01 hx02 (HC.out.g.ex hxw2) (HD.out.g.ex hxw2) (by omega) (fun r hr=> by have:=kr1 r hr;omega) (fun r hr=> by have:=kr2 r hr;omega) kl1 kl2);have hRB:B + 1 + 1 + 1 < w2.heap.size:=World.block_lt_of_cell? _ _ (HBM.out.ex hx2).c0;have hst0:RSt w2 A NB (B + 1 + 1 + 1) b nn (.slice x1 c.rows.length y1) (.slice x2 d.rows.length y2) (0, []) (w3.alloc (.cells #[.slice none 0 0] 54)):=
   ⟨⟨hx23.trans e5,hpr.ex e5,e5.cell h11,e5.frz h11 hf11,by simp,by simp,hA⟩,hAlt,hRB,⟨_, [],n0,World.ownsRow_nil _ _ _ _,rfl,fun i e mv h=> by simp [rfOf] at h⟩,nf0⟩
  have HS0:=hid_ hst0;have hw2s:w1.heap.size≤w2.heap.size:=hx2.size;have hold:∀(v:Value) (l:List Int) (_:True),ISl w v l→∀X,0 < l.length→v.ownBlock=some X→X < B:=fun v l _ h X hl hX=> by
   obtain ⟨a,cap,rfl,-,-,h5⟩:=h.open;obtain ⟨b',o,rfl,h6⟩:=h5 hl;injection hX with hX;have hX:b'=X:=hX;subst hX;have:=World.block_lt_of_cell? _ _ (h6 0 _ (get_getD hl));have h2:=HWB.out;simp only at this;omega
  have hpr1:∀(v:Value) (l:List Int),ISl w v l→PrS (DM3 A NB (B + 1 + 1 + 1)) (w3.alloc (.cells #[.slice none 0 0] 54)) v l:=fun v l h=> by
   have h2:=h.ex hxw2;have hk:Keeps (fun _ X=> w2.heap.size≤X) w2 (w3.alloc (.cells #[.slice none 0 0] 54)):=⟨(hx23.trans e5).size,fun X hX hn=> ⟨(hx23.trans e5).block X hX,hn⟩⟩;refine ⟨(h.ex hxw2).ex (hx23.trans e5),fun hl X hX hd=> ?_⟩;obtain ⟨a,cap,rfl,-,-,h5⟩:=h2.open;obtain ⟨b',o,rfl,h6⟩:=h5 (List.length_pos_iff.2 hl);injection hX with hX;have hX:b'=X:=hX;subst hX;obtain ⟨x,l',rfl⟩:=List.exists_cons_of_ne_nil hl;have hlt:b' < w2.heap.size:=World.block_lt_of_cell? _ _ (h6 0 x rfl);rcases hd with hd | hd | hd | ⟨ev,he1,he2⟩
   ·omega
   ·omega
   ·have:=hold _ _ trivial h;have:=this b' (List.length_pos_iff.2 hl) rfl;omega
   ·rw [n0] at he1;injection he1 with he1;subst he1;cases he2
  have HSR:=hid_ (search_rft HENV.out (.pointer (some ⟨NB,0,none⟩)) (fun s w' tl' sl' tv' sv' side msg mv h hl ht' hs' hm' hsl' h64 hml hne=> rft_note h hl ht' hs' hm' h64 hsl' hne) (nn - tl.length) (0, []) _ tl sl _ _ (by omega) (by omega) (by rw [←hnn];exact k7) (fun h=> absurd rfl h) hst0 (hpr1 _ _ HT.out) (hpr1 _ _ HS.out));have hR:srF pn mn c.ml c.rows d.rows nn (nn - tl.length) (0, []) tl sl=fndS c d tl sl:=by
   unfold fndS;rw [hp,hm,hnn];rfl
  rw [hR] at HSR;have q:=HBM.out.ex (hx2.trans (hx23.trans e5));have HB2:=hid_ (HBM.out.ex hx2);have b0:=(hx2.trans (hx23.trans e5)).cell B0.out;have b1:=(hx2.trans (hx23.trans e5)).cell B1.out;have HW2:=hid_ hxw2;have HS2:=hid_ (show B + 1 + 1 + 1 < w2.heap.size from World.block_lt_of_cell? _ _ HB2.out.c0);clear hRB hold hp hm hnn hx2 hg hx01 hx02 hA hx23 hpr h11 hf11 k3 k4 k5 k6 k7 k8 k9 ho2 kl1 kr1 kl2 kr2 kn1 kn2 hAlt hxw2 e5 n0 nf0 hst0 hw2s hpr1 hR HENV q hE;obtain ⟨R,hR⟩:∃R,fndS c d tl sl=R:=⟨_,rfl⟩;rw [hR] at HSR;have HRE:=hid_ hR;clear hR;go_wp2_with fail
  try simp only [hNB]
  generalize w3.alloc (.cells #[.slice none 0 0] 54)=w4 at *;clear hNB;refine HSR.out.mono ?_;rintro e w5 ⟨rfl,hs5,hk5⟩;have HS5:=hid_ hs5;have HX5:=hid_ hs5.sw.ex;obtain ⟨q0,qf0⟩:=HB2.out.ex HX5.out;have HMO:=hid_ (show ∀r w',RfR (rftL 0 R) (rftE 0 R) r w'→RfR (rftL (stE 0 0 (samF c.p c.m c.ml d.p d.m d.ml) c.n d.n tl sl (c.p.toNat ^ c.m.toNat)) (fndS c d tl sl)) (rftE (stE 0 0 (samF c.p c.m c.ml d.p d.m d.ml) c.n d.n tl sl (c.p.toNat ^ c.m.toNat)) (fndS c d tl sl)) r w' from fun r w' h=> by rw [HE.out,HRE.out];exact h);clear hs5 hk5 b0 b1 HSR HS0;obtain ⟨E2,hE2⟩:∃E,R.2=E:=⟨_,rfl⟩;have HE2:=hid_ hE2;simp only [hE2];by_cases h0:E2=0
  ·subst h0;obtain ⟨ev,mvs,n0,n1,n2,n3⟩:=HS5.out.en;obtain ⟨ea,ec,rfl⟩:=own_shape n1;have N1:=hid_ n1;have N2:=hid_ n2;have N3:=hid_ n3;have HFM:=hid_ (show rftL 0 R=rfOf R.1.2∧rftE 0 R=0 from by
    unfold rftL rftE;rw [HE2.out];exact ⟨rfl,rfl⟩)
   clear hE2 n1 n2 n3;go_wp2_with fail
   refine bodyPost_ret (v:= .tuple #[.agg #[.slice ea R.1.2.length ec],.int .i64 0]) (by simp [results,Tryz.results31,go_sem,q0]) rfl ⟨⟨0,0,HO1.out,fun _=> HO2.out trivial,HMO.out _ _ ?_⟩,(HW2.out.trans HX5.out).setCell (p:=⟨B + 1 + 1 + 1,0,none⟩) (by rw [HWB.out];show B≤B + 1 + 1 + 1;omega) _⟩;rw [HFM.out.1,HFM.out.2];refine ⟨_,rfl,mvs,by rw [rfOf_len];exact N2.out,?_,fun i e mv h1 h2=> ?_⟩
   ·rw [rfOf_len];exact Sl.own (ownsRow_setCell_ne (a:=⟨B + 1 + 1 + 1,0,none⟩) N1.out (fun e=> by have:=(N1.out.lt _ e).1;have:=HS5.out.ne;have:=HS5.out.rb;have:=HS5.out.sw.lb;simp only at *;omega) _)
   ·have hp:=N3.out i e mv h1 h2
    cases hm:e.msg with
    | nil=>
     rw [hm] at hp;obtain ⟨g1,a,cap,g2,g3,g4,g5⟩:=hp.1;exact ⟨g1,a,cap,g2,g3,g4,fun hn=> absurd hn (by simp)⟩
    | cons y l=>
     rw [hm] at hp;exact Sl.other hp.1 (fun X hX e2=> hp.2 (by simp) X hX (.inr (.inr (.inl e2)))) _
  ·have k0:(E2==0)=false:=by simpa using h0
   by_cases h18:E2=18
   ·subst h18;have HFM:=hid_ (show rftL 0 R= []∧rftE 0 R=11 from by
     unfold rftL rftE;rw [HE2.out];exact ⟨rfl,rfl⟩)
    clear hE2 h0;go_wp2_with fail
    refine bodyPost_ret (v:= .tuple #[.agg #[.slice none 0 0],.int .i64 11]) (by simp [results,Tryz.results31,go_sem,q0]) rfl ⟨⟨0,0,HO1.out,fun _=> HO2.out trivial,HMO.out _ _ ?_⟩,(HW2.out.trans HX5.out).setCell (p:=⟨B + 1 + 1 + 1,0,none⟩) (by rw [HWB.out];show B≤B + 1 + 1 + 1;omega) _⟩;rw [HFM.out.1,HFM.out.2];exact ⟨_,rfl,RSl.nil _⟩
   ·have k18:(E2==18)=false:=by simpa using h18
    have HFM:=hid_ (show rftL 0 R= []∧rftE 0 R=E2 from by
     unfold rftL rftE;rw [HE2.out];simp [h18,h0])
    clear hE2 h18 h0;go_wp2_with fail
    refine bodyPost_ret (v:= .tuple #[.agg #[.slice none 0 0],.int .i64 E2]) (by simp [results,Tryz.results31,go_sem,q0]) rfl ⟨⟨0,0,HO1.out,fun _=> HO2.out trivial,HMO.out _ _ ?_⟩,(HW2.out.trans HX5.out).setCell (p:=⟨B + 1 + 1 + 1,0,none⟩) (by rw [HWB.out];show B≤B + 1 + 1 + 1;omega) _⟩;rw [HFM.out.1,HFM.out.2];exact ⟨_,rfl,RSl.nil _⟩
end
end Go.Proofs.YtgdmlmhpineibaaGreat
