/- Walk of the pair's extensions, for both closures (printed by gen_ext.py). -/
import Derived.Test.YtehieobniamagaaGreatZs12
namespace Go.Proofs.YtehieobniamagaaGreat
set_option linter.all false
set_option maxRecDepth 100000
set_option maxHeartbeats 16000000
open Go.RowKit
theorem Kc{w:World}{base:Nat}{e t:TypeId}{n:Nat}{v:Value}{xs:List Value}{g:Nat}{cs:Array Value}(h:w.ownsRow base e 1 v n xs)(hg:w.heap[g]?=some (.cells cs t))(he:e≠t):∀B,v.ownBlock=some B->B≠g:=by
 intro B hB e0;rcases h.2 with⟨h1,h2⟩|⟨g',cap,cur,h1,h2,h3,_⟩
 .rw[h1]at hB;cases hB
 .rw[h1]at hB;injection hB with hB;have hB:g'=B:=hB;subst hB e0;rw[hg]at h3;injection h3 with h3;injection h3 with _ h3;exact he h3.symm
theorem UO(l:List Int)(x:Int):Ao l ++ [Value.int .i64 x]=Ao (l ++ [x]):=by unfold Ao;simp
theorem It{w:World}{base:Nat}{v:Value}{l:List Int}{x:Int}(h:w.ownsRow base 3 1 v (l.length+1) (Ao l ++ [Value.int .i64 x])):w.ownsRow base 3 1 v (l ++ [x]).length (Ao (l ++ [x])):=by
 rw[<-UO,List.length_append];exact h
structure XV(wr wx:World)(qb:Nat)(tv sv:Value)(tl sl:List Int):Prop where
 c0:wx.cell? (qb,0)=some tv
 c1:wx.cell? (qb,1)=some sv
 t:Al wx tv tl
 s:Al wx sv sl
 tb:∀B,tv.ownBlock=some B->wr.heap.size<=B
 sb:∀B,sv.ownBlock=some B->wr.heap.size<=B
 ex:Ex wr wx
theorem XV.of_set{wr wB:World}{qb:Nat}{tv sv:Value}{tl sl:List Int}{t:TypeId}(ht:3≠t)(o1:wB.ownsRow wr.heap.size 3 1 tv tl.length (Ao tl))(o2:wB.ownsRow wr.heap.size 3 1 sv sl.length (Ao sl))(hx:Ex wr wB)(hq:wr.heap.size<=qb)(hb:wB.heap[qb]?=some (.cells #[.slice none 0 0,.slice none 0 0] t)):
  XV wr ((wB.setCell (qb,0) tv).setCell (qb,1) sv) qb tv sv tl sl:=by
 have hc:∀i,i<2->∃v,wB.cell? ⟨qb,i,none⟩=some v:=fun i hi=>by
  unfold World.cell?;rw[hb];rcases i with _ | _|i
  .exact⟨_,rfl⟩
  .exact⟨_,rfl⟩
  .omega
 have n1:=Kc o1 hb ht;have n2:=Kc o2 hb ht;have s1:((wB.setCell (qb,0) tv).setCell (qb,1) sv).ownsRow wr.heap.size 3 1 tv tl.length (Ao tl):=Ac (a:=⟨qb,1,none⟩) (Ac (a:=⟨qb,0,none⟩) o1 (fun e=>n1 qb e rfl) _) (fun e=>n1 qb e rfl) _;have s2:((wB.setCell (qb,0) tv).setCell (qb,1) sv).ownsRow wr.heap.size 3 1 sv sl.length (Ao sl):=Ac (a:=⟨qb,1,none⟩) (Ac (a:=⟨qb,0,none⟩) o2 (fun e=>n2 qb e rfl) _) (fun e=>n2 qb e rfl) _;obtain⟨u0,h0⟩:=hc 0 ac;obtain⟨u1,h1⟩:=hc 1 ac;refine⟨?_,World.cell?_setCell_same _ _ _ (by rw[Ag ae];exact h1),Sl.own s1,Sl.own s2,fun B h=>(o1.lt B h).1,fun B h=>(o2.lt B h).1,(hx.setCell (p:=⟨qb,0,none⟩) hq _).setCell (p:=⟨qb,1,none⟩) hq _⟩;rw[Ag ae];exact World.cell?_setCell_same _ _ _ h0
theorem Kk{w w':World}{B:Nat}{o:Obj}(h:Ex w w')(hb:w.heap[B]?=some o):w'.heap[B]?=some o:=by
 exact zcm
theorem D6{w:World}{B:Nat}{o:Obj}(hb:w.heap.size=B):(w.alloc o).heap[B]?=some o:=by
 subst hb;show(w.heap.push o)[w.heap.size]?=some o
 exact Array.getElem?_push_size
theorem M5{w:World}{B:Nat}{u v:Value}{t:TypeId}(h:w.heap[B]?=some (.cells #[u,v] t)):w.cell? (B,0)=some u/\w.cell? (B,1)=some v/\w.frozen? (B,0)=false/\w.frozen? (B,1)=false:=by
 refine⟨?_,?_,?_,?_⟩
 .unfold World.cell?;simp[h]
 .unfold World.cell?;simp[h]
 .unfold World.frozen?;simp[h]
 .unfold World.frozen?;simp[h]
theorem KC{w:World}{B:Nat}{x:Value}{t:TypeId}(h:w.heap[B]?=some (.cells #[x] t)):Sl w (.slice (some (B,0)) 1 1) 1 1 [x]:=
 ⟨rfl,some ⟨B,0,none⟩,1,rfl,Nat.le_refl _,by unfold maxLen;omega,fun _=>⟨B,0,rfl,fun j u hu=>by
  rcases j with _|j
  .simp at hu;subst hu;unfold World.cell?;simp[h]
  .simp at hu⟩⟩
theorem XV.later{wr w w':World}{qb:Nat}{tv sv:Value}{tl sl:List Int}(h:XV wr w qb tv sv tl sl)(hx:Ex w w'):XV wr w' qb tv sv tl sl:=
 ⟨hx.cell h.c0,hx.cell h.c1,h.t.ex hx,h.s.ex hx,h.tb,h.sb,h.ex.trans hx⟩
structure En(wr:World)(BP:Nat)(tv sv:Value)(tl sl:List Int)(j c:Nat)(L:Nat->Bool)(V:Nat->Value)(w:World):Prop where
 ex:Ex wr w
 v0:L 0=true->V 0= .pointer (some (BP,0))
 v1:L 1=true->V 1=tv
 v2:L 2=true->L 5=false->w.ownsRow wr.heap.size 3 1 (V 2) tl.length (Ao tl)
 v3:L 3=true->V 3= .int .i64 j
 v4:L 4=true->L 5=false->∃B,V 4= .slice (some ⟨B,0,none⟩) 1 1/\w.heap[B]?=some (.cells #[(j:Int)] 3)
 v5:L 5=true->L 14=false->w.ownsRow wr.heap.size 3 1 (V 5) (tl ++ [(j:Int)]).length (Ao (tl ++ [(j:Int)]))
 v6:L 6=true->V 6= .pointer (some (BP,1))
 v7:L 7=true->V 7=sv
 v8:L 8=true->L 11=false->w.ownsRow wr.heap.size 3 1 (V 8) sl.length (Ao sl)/\AR (V 5) (V 8)
 v9:L 9=true->V 9= .int .i64 c
 v10:L 10=true->L 11=false->∃B,V 10= .slice (some ⟨B,0,none⟩) 1 1/\w.heap[B]?=some (.cells #[(c:Int)] 3)/\(L 2=true->L 5=false->(V 2).ownBlock≠some B)
 v11:L 11=true->L 14=false->w.ownsRow wr.heap.size 3 1 (V 11) (sl ++ [(c:Int)]).length (Ao (sl ++ [(c:Int)]))
 v12:L 12=true->V 12= .agg #[V 5,V 11]
 v13:L 13=true->L 14=false->∃qb,V 13= .pointer (some ⟨qb,0,none⟩)/\wr.heap.size<=qb/\w.heap[qb]?=some (.cells #[.slice none 0 0,.slice none 0 0] 71)
 v14:L 14=true->∃qb,V 13= .pointer (some ⟨qb,0,none⟩)/\XV wr w qb (V 5) (V 11) (tl ++ [(j:Int)]) (sl ++ [(c:Int)])
section
variable {wr w w':World} {BP:Nat} {tv sv u:Value} {tl sl:List Int} {j c:Nat} {L:Nat->Bool} {V:Nat->Value}
theorem En.grow(h:En wr BP tv sv tl sl j c L V w)(hx:Ex w w'):En wr BP tv sv tl sl j c L V w' where
 ex:=h.ex.trans hx
 v0:=h.v0
 v1:=h.v1
 v2:=fun a b=>Aj (h.v2 a b) hx
 v3:=h.v3
 v4:=fun a b=>by obtain⟨B,h1,h2⟩:=h.v4 a b;exact⟨B,h1,Kk hx h2⟩
 v5:=fun a b=>Aj (h.v5 a b) hx
 v6:=h.v6
 v7:=h.v7
 v8:=fun a b=>⟨Aj (h.v8 a b).1 hx,(h.v8 a b).2⟩
 v9:=h.v9
 v10:=fun a b=>by obtain⟨B,h1,h2,h3⟩:=h.v10 a b;exact⟨B,h1,Kk hx h2,h3⟩
 v11:=fun a b=>Aj (h.v11 a b) hx
 v12:=h.v12
 v13:=fun a b=>by obtain⟨B,h1,h2,h3⟩:=h.v13 a b;exact⟨B,h1,h2,Kk hx h3⟩
 v14:=fun a=>by obtain⟨B,h1,h2⟩:=h.v14 a;exact⟨B,h1,h2.later hx⟩
theorem En.set0(h:En wr BP tv sv tl sl j c L V w)(hu:u= .pointer (some (BP,0))):En wr BP tv sv tl sl j c (Az L 0 true) (Az V 0 u) w:=
 ⟨h.ex,fun _=>hu,h.v1,h.v2,h.v3,h.v4,h.v5,h.v6,h.v7,h.v8,h.v9,h.v10,h.v11,h.v12,h.v13,h.v14⟩
theorem En.set1(h:En wr BP tv sv tl sl j c L V w)(hu:u=tv):En wr BP tv sv tl sl j c (Az L 1 true) (Az V 1 u) w:=
 ⟨h.ex,h.v0,fun _=>hu,h.v2,h.v3,h.v4,h.v5,h.v6,h.v7,h.v8,h.v9,h.v10,h.v11,h.v12,h.v13,h.v14⟩
theorem En.set3(h:En wr BP tv sv tl sl j c L V w)(hu:u= .int .i64 j):En wr BP tv sv tl sl j c (Az L 3 true) (Az V 3 u) w:=
 ⟨h.ex,h.v0,h.v1,h.v2,fun _=>hu,h.v4,h.v5,h.v6,h.v7,h.v8,h.v9,h.v10,h.v11,h.v12,h.v13,h.v14⟩
theorem En.set6(h:En wr BP tv sv tl sl j c L V w)(hu:u= .pointer (some (BP,1))):En wr BP tv sv tl sl j c (Az L 6 true) (Az V 6 u) w:=
 ⟨h.ex,h.v0,h.v1,h.v2,h.v3,h.v4,h.v5,fun _=>hu,h.v7,h.v8,h.v9,h.v10,h.v11,h.v12,h.v13,h.v14⟩
theorem En.set7(h:En wr BP tv sv tl sl j c L V w)(hu:u=sv):En wr BP tv sv tl sl j c (Az L 7 true) (Az V 7 u) w:=
 ⟨h.ex,h.v0,h.v1,h.v2,h.v3,h.v4,h.v5,h.v6,fun _=>hu,h.v8,h.v9,h.v10,h.v11,h.v12,h.v13,h.v14⟩
theorem En.set9(h:En wr BP tv sv tl sl j c L V w)(hu:u= .int .i64 c):En wr BP tv sv tl sl j c (Az L 9 true) (Az V 9 u) w:=
 ⟨h.ex,h.v0,h.v1,h.v2,h.v3,h.v4,h.v5,h.v6,h.v7,h.v8,fun _=>hu,h.v10,h.v11,h.v12,h.v13,h.v14⟩
theorem En.set2(h:En wr BP tv sv tl sl j c L V w)(hu:w.ownsRow wr.heap.size 3 1 u tl.length (Ao tl))(hn:∀B,(∃o,w.heap[B]?=some o/\V 10= .slice (some ⟨B,0,none⟩) 1 1/\L 10=true/\L 11=false)->u.ownBlock≠some B):En wr BP tv sv tl sl j c (Az L 2 true) (Az V 2 u) w:=
 ⟨h.ex,h.v0,h.v1,fun _ _=>hu,h.v3,h.v4,h.v5,h.v6,h.v7,h.v8,h.v9,fun a b=>by obtain⟨B,h1,h2,h3⟩:=h.v10 a b;exact⟨B,h1,h2,fun _ _=>hn B ⟨_,h2,h1,a,b⟩⟩,h.v11,h.v12,h.v13,h.v14⟩
theorem En.set4(h:En wr BP tv sv tl sl j c L V w){B:Nat}(hu:u= .slice (some (B,0)) 1 1)(hb:w.heap[B]?=some (.cells #[(j:Int)] 3)):En wr BP tv sv tl sl j c (Az L 4 true) (Az V 4 u) w:=
 ⟨h.ex,h.v0,h.v1,h.v2,h.v3,fun _ _=>⟨B,hu,hb⟩,h.v5,h.v6,h.v7,h.v8,h.v9,h.v10,h.v11,h.v12,h.v13,h.v14⟩
theorem En.set8(h:En wr BP tv sv tl sl j c L V w)(hu:w.ownsRow wr.heap.size 3 1 u sl.length (Ao sl))(ha:AR (V 5) u):En wr BP tv sv tl sl j c (Az L 8 true) (Az V 8 u) w:=
 ⟨h.ex,h.v0,h.v1,h.v2,h.v3,h.v4,h.v5,h.v6,h.v7,fun _ _=>⟨hu,ha⟩,h.v9,h.v10,h.v11,h.v12,h.v13,h.v14⟩
theorem En.set10(h:En wr BP tv sv tl sl j c L V w){B:Nat}(hu:u= .slice (some (B,0)) 1 1)(hb:w.heap[B]?=some (.cells #[(c:Int)] 3))(hn:L 2=true->L 5=false->(V 2).ownBlock≠some B):En wr BP tv sv tl sl j c (Az L 10 true) (Az V 10 u) w:=
 ⟨h.ex,h.v0,h.v1,h.v2,h.v3,h.v4,h.v5,h.v6,h.v7,h.v8,h.v9,fun _ _=>⟨B,hu,hb,hn⟩,h.v11,h.v12,h.v13,h.v14⟩
theorem En.set12(h:En wr BP tv sv tl sl j c L V w)(hu:u= .agg #[V 5,V 11]):En wr BP tv sv tl sl j c (Az L 12 true) (Az V 12 u) w:=
 ⟨h.ex,h.v0,h.v1,h.v2,h.v3,h.v4,h.v5,h.v6,h.v7,h.v8,h.v9,h.v10,h.v11,fun _=>hu,h.v13,h.v14⟩
theorem En.set13(h:En wr BP tv sv tl sl j c L V w)(aA:L 14=false){qb:Nat}(hu:u= .pointer (some (qb,0)))(hq:wr.heap.size<=qb)(hb:w.heap[qb]?=some (.cells #[.slice none 0 0,.slice none 0 0] 71)):En wr BP tv sv tl sl j c (Az L 13 true) (Az V 13 u) w:=
 ⟨h.ex,h.v0,h.v1,h.v2,h.v3,h.v4,h.v5,h.v6,h.v7,h.v8,h.v9,h.v10,h.v11,h.v12,fun _ _=>⟨qb,hu,hq,hb⟩,fun a=>absurd (a.symm.trans aA) ae⟩
theorem az{P:Prop}(h:P:=by show ¬(true=false);decide):P:=h
theorem En.set5(h:En wr BP tv sv tl sl j c L V w)(h2:L 2=true)(h5:L 5=false)(h8:L 8=false)(aD:L 11=false)(aC:L 12=false)(aB:L 14=false)(hx:Ex wr w')(hg:w.grownBy w' (V 2).ownBlock)(hu:w'.ownsRow wr.heap.size 3 1 u (tl ++ [(j:Int)]).length (Ao (tl ++ [(j:Int)]))):En wr BP tv sv tl sl j c (Az L 5 true) (Az V 5 u) w' where
 ex:=hx
 v0:=h.v0
 v1:=h.v1
 v2:=fun _ b=>absurd b az
 v3:=h.v3
 v4:=fun _ b=>absurd b az
 v5:=fun _ _=>hu
 v6:=h.v6
 v7:=h.v7
 v8:=fun a=>absurd ((show L 8=true from a).symm.trans h8) ae
 v9:=h.v9
 v10:=fun a b=>by
  obtain⟨B,h1,h3,h4⟩:=h.v10 a b;refine⟨B,h1,?_,fun _ b=>absurd b az⟩;have aA:B<w.heap.size:=(Array.getElem?_eq_some_iff.1 h3).1;rw[hg.block B aA (fun e=>h4 h2 h5 e.symm)];exact h3
 v11:=fun a=>absurd ((show L 11=true from a).symm.trans aD) ae
 v12:=fun a=>absurd ((show L 12=true from a).symm.trans aC) ae
 v13:=fun a b=>by
  obtain⟨B,h1,h3,h4⟩:=h.v13 a b;refine⟨B,h1,h3,?_⟩;have aA:B<w.heap.size:=(Array.getElem?_eq_some_iff.1 h4).1;rw[hg.block B aA (fun e=>Kc (h.v2 h2 h5) h4 ae B e.symm rfl)];exact h4
 v14:=fun a=>absurd ((show L 14=true from a).symm.trans aB) ae
theorem En.set11(h:En wr BP tv sv tl sl j c L V w)(h5:L 5=true)(h8:L 8=true)(aA:L 11=false)(aD:L 12=false)(aC:L 14=false)(hx:Ex wr w')(hg:w.grownBy w' (V 8).ownBlock)(hu:w'.ownsRow wr.heap.size 3 1 u (sl ++ [(c:Int)]).length (Ao (sl ++ [(c:Int)]))):En wr BP tv sv tl sl j c (Az L 11 true) (Az V 11 u) w' where
 ex:=hx
 v0:=h.v0
 v1:=h.v1
 v2:=fun _ b=>absurd (h5.symm.trans b) ae
 v3:=h.v3
 v4:=fun _ b=>absurd (h5.symm.trans b) ae
 v5:=fun a b=>(h.v5 a b).kept hg (h.v8 h8 aA).2
 v6:=h.v6
 v7:=h.v7
 v8:=fun _ b=>absurd b az
 v9:=h.v9
 v10:=fun _ b=>absurd b az
 v11:=fun _ _=>hu
 v12:=fun a=>absurd ((show L 12=true from a).symm.trans aD) ae
 v13:=fun a b=>by
  obtain⟨B,h1,h3,h4⟩:=h.v13 a b;refine⟨B,h1,h3,?_⟩;have aB:B<w.heap.size:=(Array.getElem?_eq_some_iff.1 h4).1;rw[hg.block B aB (fun e=>Kc (h.v8 h8 aA).1 h4 ae B e.symm rfl)];exact h4
 v14:=fun a=>absurd ((show L 14=true from a).symm.trans aC) ae
theorem En.set14(h:En wr BP tv sv tl sl j c L V w)(h5:L 5=true)(aA:L 11=true)(h14:L 14=false)(h2:L 2=true){qb:Nat}(hq:V 13= .pointer (some (qb,0)))(hQ:XV wr w' qb (V 5) (V 11) (tl ++ [(j:Int)]) (sl ++ [(c:Int)])):En wr BP tv sv tl sl j c (Az L 14 true) (Az V 14 u) w' where
 ex:=hQ.ex
 v0:=h.v0
 v1:=h.v1
 v2:=fun _ b=>absurd (h5.symm.trans b) ae
 v3:=h.v3
 v4:=fun _ b=>absurd (h5.symm.trans b) ae
 v5:=fun _ b=>absurd b az
 v6:=h.v6
 v7:=h.v7
 v8:=fun _ b=>absurd (aA.symm.trans b) ae
 v9:=h.v9
 v10:=fun _ b=>absurd (aA.symm.trans b) ae
 v11:=fun _ b=>absurd b az
 v12:=h.v12
 v13:=fun _ b=>absurd b az
 v14:=fun _=>⟨qb,hq,hQ⟩
end
theorem zaa{P:Prop}(h:P:=by
 have b0:=hk.o.cell bG.o B0.o;have bN:=(HT.o.keep hk.o).1;have i1:(j:Int)<(n:Int):=by omega
 obtain⟨bA,HE,aB,HK⟩:=Eq (DC wr tl tv j bN) he.o BC.o hk.o;clear he BC hk
 cases hc:tl.contains (j:Int) with
 | true=>
  rw[hc]at bA;have bT:=Aa (VI (step:=step) (q:=q) (sl:=sl) (s:=s) HE.o hc);clear hc;go_wp2_with (go_at_call 132;refine bA.o.mono ?_;rintro e w4⟨rfl,rfl⟩)
  go_roundw
  case rel=>exact⟨j+1,by omega,by go_num,Aa (by rw[bT.o];exact HE.o),Aa (by rw[bT.o];exact aB.o),HK⟩
  case measure=>simp[intOf];omega
 | false=>
  rw[hc]at bA;have bJ:=Aa hc;obtain⟨s1,bC⟩:=nA ((Eh step q tl sl j s).1);rw[bC]at aB;have aK:=Aa bC;clear hc bC;go_wp2_with (go_at_call 132;refine bA.o.mono ?_;rintro e w4⟨rfl,rfl⟩)
  clear b0 bN
  go_loopw [8] (fun c' wr=>∃c:Nat,1<=c/\c<=q/\c'= .int .i64 c/\Hia ((FM step tl sl j (c-1) s1).2=0)/\Hia (St (FM step tl sl j (c-1) s1).1 wr)/\Hia (AO DM w1 wr)) (fun c' _=>q-(intOf c').toNat)
  case atStart=>exact⟨1,by omega,by omega,rfl,Aa rfl,aB,HK⟩
  case round=>
   clear aB HK;obtain⟨c,cB,hcq,rfl,he,BC,hk⟩:=hrel;have bI:=Aa he.o;have aB:=Aa BC.o;have HK:=Aa hk.o;obtain⟨c0,-,aP⟩:=HC.o _ _ BC.o;have aV:=Aa aP;clear he BC hk aP;by_cases aA:c<q
   .have b0:=HK.o.cell bG.o B0.o;have b1:=HK.o.cell bG.o B1.o;have i2:(c:Int)<(q:Int):=by omega
    have aN:=(HT.o.keep HK.o).1;have aO:=(cI.o.keep HK.o).1;have aX:=Aa (fun (w5:World) (h5:Ex wr w5)=>Gb w5 tl tv (aN.ex h5) (by omega));have aW:=Aa (fun (w5:World) (h5:Ex wr w5)=>Gb w5 sl sv (aO.ex h5) (by omega));have bL:=Aa (fun (w5:World) (h5:Ex wr w5)=>(⟨h5.cell b0,h5.cell b1,h5⟩:w5.cell? (BP,0)=some tv/\w5.cell? (BP,1)=some sv/\Ex wr w5));clear aN aO;go_wp2_with (go_at_call 54;refine aV.o.mono ?_;rintro e w5⟨rfl,rfl⟩)
    go_upto_region 8 with fail
    go_cut [9] from 32 to 50 (fun s9 wx=>∃qb aL aM,s9= .pointer (some ⟨qb,0,none⟩)/\Hia (XV wr wx qb aL aM (tl ++ [(j:Int)]) (sl ++ [(c:Int)])))
    case first=>
     have X0:=Aa (Ex.refl wr).drew;have bR:=Aa bX;have bS:=Aa bZ;clear c0;refine Da (En wr BP tv sv tl sl j c) (by kernel_rfl) (by kernel_rfl) ?_ ?_ ?_
     .exact⟨X0.o,fun h=>(by cases h),fun h=>(by cases h),fun h=>(by cases h),fun h=>(by cases h),fun h=>(by cases h),fun h=>(by cases h),fun h=>(by cases h),fun h=>(by cases h),fun h=>(by cases h),fun h=>(by cases h),fun h=>(by cases h),fun h=>(by cases h),fun h=>(by cases h),fun h=>(by cases h),fun h=>(by cases h)⟩
     .refine⟨fun L V a w hf hj hi hd aA K hK=>?_,fun L V a w hf hj hi hd aA K hK=>?_,fun L V a w hf hj hi hd aA K hK=>?_,fun L V a w hf hj hi hd aA K hK=>?_,fun L V a w hf hj hi hd aA K hK=>?_,fun L V a w hf hj hi hd aA K hK=>?_,fun L V a w hf hj hi hd aA K hK=>?_,fun L V a w hf hj hi hd aA K hK=>?_,fun L V a w hf hj hi hd aA K hK=>?_,fun L V a w hf hj hi hd aA K hK=>?_,fun L V a w hf hj hi hd aA K hK=>?_,fun L V a w hf hj hi hd aA K hK=>?_,fun L V a w hf hj hi hd aA K hK=>?_,fun L V a w hf hj hi hd aA K hK=>?_,fun L V a w hf hj hi hd aA K hK=>?_,trivial⟩
      .have e:a.tmps[4]?=some (.pointer (some (BP,0))):=hf.out_ 4 (by kernel_rfl);clear hf aA hd;go_simp;exact hK _ _ (hj.set0 rfl)
      .have d0:L 0=true:=hd ⟨0,.data⟩ (by simp) rfl;have e:=hf.in_ 0 32 d0 rfl rfl;rw[hj.v0 d0]at e;have c0:=hj.ex.cell b0;clear hf aA hd;go_simp;exact hK _ _ (hj.set1 rfl)
      .have d1:L 1=true:=hd ⟨1,.data⟩ (by simp) rfl;have e:=hf.in_ 1 33 d1 rfl rfl;rw[hj.v1 d1]at e;have hc:=Aa (aX.o w hj.ex);clear hf aA hd;go_simp;refine hc.o.mono ?_;rintro e w'⟨v1,rfl,ho,hx⟩;refine hK _ _ ((hj.grow hx).set2 (Bj ho hj.ex.size) (fun B hB e=>?_));obtain⟨o,hb,hv,cE,aE⟩:=hB;obtain⟨B',h1,h2,h3⟩:=hj.v10 cE aE;have e2:B=B':=by
        have:=hv.symm.trans h1;injection this with this;injection this with this;injection this with this
       have h4:B'<w.heap.size:=(Array.getElem?_eq_some_iff.1 h2).1;have:=(ho.lt B e).1;omega
      .have e:a.tmps[7]?=some (.int .i64 j):=hf.out_ 7 (by kernel_rfl);clear hf aA hd;go_simp;exact hK _ _ (hj.set3 rfl)
      .have d3:L 3=true:=hd ⟨3,.data⟩ (by simp) rfl;have e:=hf.in_ 3 35 d3 rfl rfl;rw[hj.v3 d3]at e;clear hf aA hd;go_simp;exact hK _ _ ((hj.grow (AI w _)).set4 rfl (D6 rfl))
      .have d2:L 2=true:=hd ⟨2,.data⟩ (by simp) rfl;have d4:L 4=true:=hd ⟨4,.data⟩ (by simp) rfl;have e1:=Cz (hf.in_ 2 34 d2 rfl rfl);have e2:=Cz (hf.in_ 4 36 d4 rfl rfl);obtain⟨B,hv,hb⟩:=hj.v4 d4 hi;have aS:L 12=false:=Bn fun h=>absurd (hi.symm.trans (aA 12 _ h rfl ⟨5,.data⟩ (by simp) rfl)) (by decide);have h8:L 8=false:=Bn fun h=>absurd (hi.symm.trans (aA 8 _ h rfl ⟨5,.chain⟩ (by simp) rfl)) (by decide);have aE:L 11=false:=Bn fun h=>absurd (h8.symm.trans (aA 11 _ h rfl ⟨8,.data⟩ (by simp) rfl)) (by decide);have aF:L 14=false:=Bn fun h=>absurd (aS.symm.trans (aA 14 _ h rfl ⟨12,.data⟩ (by simp) rfl)) (by decide);rw[hv]at e2;have own:=hj.v2 d2 hi;refine Dr _ _ 22 rfl wr.heap.size 3 (.int .i64 0) 1 8 Tryz.underlying22 AC rfl (by decide) (V 2) tl.length (Ao tl) e1 own _ 1 [.int .i64 (j:Int)] e2 (KC hb) (by simp[Value.oneCell']) (by have:=bR.o;unfold maxLen;omega) (by have:=bR.o;omega) hj.ex.size ?_;intro v' w' aJ hg ha;exact hK _ _ (hj.set5 d2 hi h8 aE aS aF (Ex.grown hj.ex own (Nat.le_refl _) hg) hg (It aJ))
      .have e:a.tmps[4]?=some (.pointer (some (BP,0))):=hf.out_ 4 (by kernel_rfl);clear hf aA hd;go_simp;exact hK _ _ (hj.set6 rfl)
      .have d0:L 6=true:=hd ⟨6,.data⟩ (by simp) rfl;have e:=hf.in_ 6 38 d0 rfl rfl;rw[hj.v6 d0]at e;have c0:=hj.ex.cell b1;clear hf aA hd;go_simp;exact hK _ _ (hj.set7 rfl)
      .have d1:L 7=true:=hd ⟨7,.data⟩ (by simp) rfl;have d5:L 5=true:=hd ⟨5,.chain⟩ (by simp) rfl;have aE:L 11=false:=Bn fun h=>absurd (hi.symm.trans (aA 11 _ h rfl ⟨8,.data⟩ (by simp) rfl)) (by decide);have aF:L 14=false:=Bn fun h=>absurd (aE.symm.trans (aA 14 _ h rfl ⟨11,.chain⟩ (by simp) rfl)) (by decide);have e:=hf.in_ 7 39 d1 rfl rfl;rw[hj.v7 d1]at e;have hc:=Aa (aW.o w hj.ex);have bB:=hj.v5 d5 aF;clear hf aA hd;go_simp;refine hc.o.mono ?_;rintro e w'⟨v1,rfl,ho,hx⟩;refine hK _ _ ((hj.grow hx).set8 (Bj ho hj.ex.size) ?_)
       cases h5b:(V 5).ownBlock with
       | none=>exact .inl h5b
       | some B=>
        right;rw[h5b];intro e2;have h1:=(bB.lt B h5b).2;have h2:=(ho.lt B e2.symm).1;omega
      .have e:a.tmps[8]?=some (.int .i64 c):=hf.out_ 8 (by kernel_rfl);clear hf aA hd;go_simp;exact hK _ _ (hj.set9 rfl)
      .have d3:L 9=true:=hd ⟨9,.data⟩ (by simp) rfl;have e:=hf.in_ 9 41 d3 rfl rfl;rw[hj.v9 d3]at e;clear hf aA hd;go_simp;exact hK _ _ ((hj.grow (AI w _)).set10 rfl (D6 rfl) (fun h2 h5 e2=>by have:=(hj.v2 h2 h5).lt _ e2;omega))
      .have d2:L 8=true:=hd ⟨8,.data⟩ (by simp) rfl;have d4:L 10=true:=hd ⟨10,.data⟩ (by simp) rfl;have d5:L 5=true:=aA 8 _ d2 rfl ⟨5,.chain⟩ (by simp) rfl;have e1:=Cz (hf.in_ 8 40 d2 rfl rfl);have e2:=Cz (hf.in_ 10 42 d4 rfl rfl);obtain⟨B,hv,hb,-⟩:=hj.v10 d4 hi;have aS:L 12=false:=Bn fun h=>absurd (hi.symm.trans (aA 12 _ h rfl ⟨11,.data⟩ (by simp) rfl)) (by decide);have aF:L 14=false:=Bn fun h=>absurd (aS.symm.trans (aA 14 _ h rfl ⟨12,.data⟩ (by simp) rfl)) (by decide);rw[hv]at e2;have own:=(hj.v8 d2 hi).1;refine Dr _ _ 22 rfl wr.heap.size 3 (.int .i64 0) 1 8 Tryz.underlying22 AC rfl (by decide) (V 8) sl.length (Ao sl) e1 own _ 1 [.int .i64 (c:Int)] e2 (KC hb) (by simp[Value.oneCell']) (by have:=bS.o;unfold maxLen;omega) (by have:=bS.o;omega) hj.ex.size ?_;intro v' w' aJ hg ha;exact hK _ _ (hj.set11 d5 d2 hi aS aF (Ex.grown hj.ex own (Nat.le_refl _) hg) hg (It aJ))
      .have d5:L 5=true:=hd ⟨5,.data⟩ (by simp) rfl;have aT:L 11=true:=hd ⟨11,.data⟩ (by simp) rfl;have aF:L 14=false:=Bn fun h=>absurd (hi.symm.trans (aA 14 _ h rfl ⟨12,.data⟩ (by simp) rfl)) (by decide);have e1:=hf.in_ 5 37 d5 rfl rfl;have e2:=hf.in_ 11 43 aT rfl rfl;obtain⟨a5,c5,h5⟩:=Ae (hj.v5 d5 aF);obtain⟨cG,cF,aE⟩:=Ae (hj.v11 aT aF);rw[h5]at e1;rw[aE]at e2;clear hf aA hd;go_simp;exact hK _ _ (hj.set12 (by rw[h5,aE];simp))
      .have aF:L 14=false:=Bn fun h=>absurd (hi.symm.trans (aA 14 _ h rfl ⟨13,.data⟩ (by simp) rfl)) (by decide);clear hf aA hd;go_simp;exact hK _ _ ((hj.grow (AI w _)).set13 aF rfl hj.ex.size (D6 rfl))
      .have aY:L 12=true:=hd ⟨12,.data⟩ (by simp) rfl;have bQ:L 13=true:=hd ⟨13,.data⟩ (by simp) rfl;have d5:L 5=true:=aA 12 _ aY rfl ⟨5,.data⟩ (by simp) rfl;have aT:L 11=true:=aA 12 _ aY rfl ⟨11,.data⟩ (by simp) rfl;have d2:L 2=true:=aA 5 _ d5 rfl ⟨2,.data⟩ (by simp) rfl;have e1:=hf.in_ 13 9 bQ rfl rfl;have e2:=hf.in_ 12 44 aY rfl rfl;obtain⟨qb,bD,cA,bP⟩:=hj.v13 bQ hi;have o5:=hj.v5 d5 hi;have bM:=hj.v11 aT hi;have hQ:=XV.of_set (by decide) o5 bM hj.ex cA bP;obtain⟨a5,c5,h5⟩:=Ae o5;obtain⟨cG,cF,aE⟩:=Ae bM;rw[bD]at e1;rw[hj.v12 aY]at e2;have bE:=hj.set14 (u:=undef) d5 aT hi d2 bD hQ;obtain⟨q0,q1,qf0,qf1⟩:=M5 bP;rw[show(tl ++ [(j:Int)]).length=tl.length+1 from by simp]at h5;rw[show(sl ++ [(c:Int)]).length=sl.length+1 from by simp]at aE;rw[h5,aE]at e2 bE;have HF:=Aa bE;clear hf aA hd hQ bE;go_simp;exact hK undef _ HF.o
     .intro L V w aR hj;obtain⟨qb,cD,hQ⟩:=hj.v14 (aR 14 (by decide));have HQ:=Aa hQ;clear hj aR hQ;simp only[Ci,Act.put,List.setIfInBounds_toArray,List.set_cons_zero,List.set_cons_succ];go_wp2_with fail
      go_meet
      exact⟨qb,_,_,cD,HQ⟩
    case rest=>
     obtain⟨qb,aL,aM,rfl,hq⟩:=hcut;have q0:=hq.o.c0;have q1:=hq.o.c1;have cH:=Aa (HH.o.ex _ _ _ aB.o hq.o.ex);have bV:=Aa (HK.o.trans (HH.o.keeps aB.o hq.o.ex));have aC:=Aa (HS.o _ wc j c aL aM cH.o hjn bJ.o cB aA (C6.fresh hq.o.t fun B hB=>HH.o.new aB.o hq.o.ex (hq.o.tb B hB)) (C6.fresh hq.o.s fun B hB=>HH.o.new aB.o hq.o.ex (hq.o.sb B hB)));have bK:=Aa (VL (step:=step) (tl:=tl) (sl:=sl) (j:=j) (c:=c-1) bI.o);rw[show c-1+1=c from by omega]at bK;rw[<-bK.o]at aC;have aI:=Aa (fun (h:(FM step tl sl j c s1).2≠0)=>by
      have:=SW (step:=step) (q:=q) (tl:=tl) (sl:=sl) (s:=s) (n:=n) (c:=c) HE.o bJ.o hjn (by omega) (by rw[aK.o];exact h);rw[aK.o]at this;exact this)
     obtain⟨E,hE⟩:=nA ((FM step tl sl j c s1).2);rw[hE]at aC aI;have bH:=Aa hE;clear hq aB HK aX aW bL b0 b1 bK hE;by_cases h0:E=0
     .have cC:(E !=0)=false:=by simp[h0]
      have bW:=Aa h0;clear h0 aI;go_wp2_with (refine aC.o.mono ?_;rintro e w6⟨rfl,aD,aQ⟩;have aG:=Aa aD;have aZ:=Aa (bV.o.trans aQ);clear aD aQ)
      go_roundw
      case rel=>first|exact⟨c+1,by omega,by omega,by go_num,Aa (by rw[show c+1-1=c from by omega,bH.o,bW.o]),Aa (by rw[show c+1-1=c from by omega];exact aG.o),aZ⟩|((repeat apply Exists.intro);exact⟨⟨c+1,by omega,by omega,by go_num,Aa (by rw[show c+1-1=c from by omega,bH.o,bW.o]),Aa (by rw[show c+1-1=c from by omega];exact aG.o),aZ⟩,rfl⟩)
      case measure=>simp[intOf];omega
     .have cC:(E !=0)=true:=by simpa using h0
      have HR:=Aa (aI.o h0);clear h0 aI;go_wp2_with (refine aC.o.mono ?_;rintro e w6⟨rfl,aD,aQ⟩;have aG:=Aa aD;have aZ:=Aa (bV.o.trans aQ);clear aD aQ)
      go_ret;exact⟨by rw[HR.o,bH.o];rfl,by rw[HR.o];exact aG.o,aH.o.trans aZ.o⟩
   .obtain rfl:c=q:=by omega
    have aU:=Aa (NQ (step:=step) (q:=c) (sl:=sl) (s:=s) HE.o bJ.o);rw[aK.o]at aU;go_wp2_with (go_at_call 54;refine aV.o.mono ?_;rintro e w5⟨rfl,rfl⟩)
    go_roundw
    case rel=>first|exact⟨j+1,by omega,by go_num,Aa (by rw[aU.o];exact bI.o),Aa (by rw[aU.o];exact aB.o),HK⟩|((repeat apply Exists.intro);exact⟨⟨j+1,by omega,by go_num,Aa (by rw[aU.o];exact bI.o),Aa (by rw[aU.o];exact aB.o),HK⟩,rfl⟩)
    case measure=>simp[intOf];omega):P:=h
theorem zaq{P:Prop}(h:P:=by
 obtain rfl:j=n:=by omega
 have HE:=Aa he.o;have aB:=Aa BC.o;have HK:=Aa hk.o;clear he BC hk;go_wp2_with fail
 go_ret;exact⟨by rw[HE.o];rfl,aB.o,aH.o.trans HK.o⟩):P:=h
theorem zba{P:Prop}(h:P:=by
 obtain⟨b0,b1,eb,bY⟩:=AX w tv sv;obtain⟨BP,bF⟩:∃B,w.heap.size=B:=⟨_,rfl⟩;rw[bF]at b0 b1;have bG:=Aa (H.new hs eb (B:=BP) (by omega));have aH:=Aa (H.keeps hs eb);obtain⟨HT,cI,aK,HH,HC,HS,B0,B1⟩:=On (ht.keep aH.o) (bO.keep aH.o) (H.ex _ _ _ hs eb) H hC hS b0 b1;obtain⟨-,c4,-⟩:=hC _ _ aK.o;clear hC hS H hs ht bO eb bY b0 b1;go_enter Tryz.func181,Tryz.ntmps181
 go_wp2_with fail
 try simp only[bF]
 clear bF;generalize w.alloc (.cells #[tv,sv] 71)=w1 at *;have bU:=Aa (AO.refl DM w1);clear c4
 go_loopw [16] (fun j' wr=>∃j:Nat,j<=n/\j'= .int .i64 j/\Hia ((Eh step q tl sl j s).2=0)/\Hia (St (Eh step q tl sl j s).1 wr)/\Hia (AO DM w1 wr)) (fun j' _=>n-(intOf j').toNat)
 case atStart=>exact⟨0,by omega,rfl,Aa rfl,aK,bU⟩
 case round=>
  clear aK bU;obtain⟨j,hj,rfl,he,BC,hk⟩:=hrel;by_cases hjn:j<n
  .exact zaa
  .exact zaq):P:=h
theorem TC{σ:Type}{St:σ->World->Prop}{DM:World->Nat->Prop}(H:Vg St DM)(step:σ->List Int->List Int->σ × Int)(w:World)(A b n q:Nat)(bD:1<=q)(hq:q<=256)(hn:n<=64)(p0 p1:Value)(tl sl:List Int)(tv sv:Value)
  (hC:∀s w1,St s w1->w1.cell? (A,0)=some (.pointer (some (b,0)))/\w1.cell? (A,4)=some (.int .i64 n)/\Calls Tryz.prog 54 #[.pointer (some (b,0))] w1 fun r w'=>r= .returned (.int .i64 (q:Int))/\w1=w')
  (hS:∀s w1 (j c:Nat) aL aM,St s w1->j<n->tl.contains (j:Int)=false->1<=c->c<q->C6 DM w1 aL (tl ++ [(j:Int)])->C6 DM w1 aM (sl ++ [(c:Int)])->Calls Tryz.prog 193 #[.agg #[aL,aM],p0,p1] w1 fun r w'=>r= .returned (.int .i64 (step s (tl ++ [(j:Int)]) (sl ++ [(c:Int)])).2)/\St (step s (tl ++ [(j:Int)]) (sl ++ [(c:Int)])).1 w'/\AO DM w1 w')
  (bX:tl.length<=64) (bZ:sl.length<=64) (s:σ) (hs:St s w) (ht:C6 DM w tv tl) (bO:C6 DM w sv sl):
  Calls Tryz.prog 181 #[.pointer (some (A,0)),.agg #[tv,sv],.func (.func 193) #[] #[p0,p1]] w fun r w'=>r= .returned (.int .i64 (Eh step q tl sl n s).2)/\St (Eh step q tl sl n s).1 w'/\AO DM w w':=by
 exact zba
theorem ZT{σ:Type}{St:σ->World->Prop}{DM:World->Nat->Prop}(H:Vg St DM)(step:σ->List Int->List Int->σ × Int)(w:World)(A b n q:Nat)(bD:1<=q)(hq:q<=256)(hn:n<=64)(p0 p1 p2 p3:Value)(tl sl:List Int)(tv sv:Value)
  (hC:∀s w1,St s w1->w1.cell? (A,0)=some (.pointer (some (b,0)))/\w1.cell? (A,4)=some (.int .i64 n)/\Calls Tryz.prog 54 #[.pointer (some (b,0))] w1 fun r w'=>r= .returned (.int .i64 (q:Int))/\w1=w')
  (hS:∀s w1 (j c:Nat) aL aM,St s w1->j<n->tl.contains (j:Int)=false->1<=c->c<q->C6 DM w1 aL (tl ++ [(j:Int)])->C6 DM w1 aM (sl ++ [(c:Int)])->Calls Tryz.prog 180 #[.agg #[aL,aM],p0,p1,p2,p3] w1 fun r w'=>r= .returned (.int .i64 (step s (tl ++ [(j:Int)]) (sl ++ [(c:Int)])).2)/\St (step s (tl ++ [(j:Int)]) (sl ++ [(c:Int)])).1 w'/\AO DM w1 w')
  (bX:tl.length<=64) (bZ:sl.length<=64) (s:σ) (hs:St s w) (ht:C6 DM w tv tl) (bO:C6 DM w sv sl):
  Calls Tryz.prog 181 #[.pointer (some (A,0)),.agg #[tv,sv],.func (.func 180) #[] #[p0,p1,p2,p3]] w fun r w'=>r= .returned (.int .i64 (Eh step q tl sl n s).2)/\St (Eh step q tl sl n s).1 w'/\AO DM w w':=by
 exact zba
end Go.Proofs.YtehieobniamagaaGreat
