/- Walk of equivalence.Compose. -/
import Derived.Deep.AppendLies
import Derived.Test.YtehieobniamagaaGreatZs10
namespace Go.Proofs.YtehieobniamagaaGreat
open Go.RowKit
set_option linter.all false
set_option maxRecDepth 100000
set_option maxHeartbeats 4000000
theorem Ax(w:World)(a b:Addr)(u:Value):(w.setCell a u).frozen? b=w.frozen? b:=ag
structure Ho(w1 wr:World)(B:Nat)(bk:Int)(pv sv:Value)(L0 L1:List Int):Prop where
 b0:wr.cell? (B,0)=some pv
 b1:wr.cell? (B,1)=some sv
 b2:wr.cell? (B,2)=some (.int .i64 bk)
 f0:wr.frozen? (B,0)=false
 f1:wr.frozen? (B,1)=false
 o0:wr.ownsRow w1.heap.size 3 1 pv L0.length (Ao L0)
 o1:wr.ownsRow w1.heap.size 3 1 sv L1.length (Ao L1)
 ap:AR pv sv
 n0:∀X,pv.ownBlock=some X->X≠B
 n1:∀X,sv.ownBlock=some X->X≠B
 lb:w1.heap.size<=B
 ex:Ex w1 wr
section
variable {w1 wr w':World} {B:Nat} {bk:Int} {pv sv v':Value} {L0 L1:List Int} {x:Int}
theorem Ho.later(h:Ho w1 wr B bk pv sv L0 L1)(hx:Ex wr w'):Ho w1 w' B bk pv sv L0 L1:=
 ⟨hx.cell h.b0,hx.cell h.b1,hx.cell h.b2,hx.frz h.b0 h.f0,hx.frz h.b1 h.f1,Aj h.o0 hx,Aj h.o1 hx,h.ap,h.n0,h.n1,h.lb,h.ex.trans hx⟩
theorem Ho.no0(h:Ho w1 wr B bk pv sv L0 L1):some B≠pv.ownBlock:=fun e=>h.n0 B e.symm rfl
theorem Ho.no1(h:Ho w1 wr B bk pv sv L0 L1):some B≠sv.ownBlock:=fun e=>h.n1 B e.symm rfl
theorem zbC{P:Prop}(h:P:=by
 have aA:=World.block_lt_of_cell? _ _ hB;rcases ha.at_ with h1|h1
 .rw[h1]at e;exact h X e
 .rw[h1]at e;injection e with e;have:B<wr.heap.size:=aA;omega):P:=h
theorem Ho.blk{b:Nat}{u:Value}{e:TypeId}{n:Nat}{xs news:List Value}(ha:Bv wr w' b e 1 u v' n xs news)(hB:wr.cell? (B,0)=some pv)(h:∀X,u.ownBlock=some X->X≠B):∀X,v'.ownBlock=some X->X≠B:=fun X e=>by
 exact zbC
end
section
variable {w1 wr w':World} {B:Nat} {bk:Int} {pv sv v':Value} {L0 L1:List Int} {x:Int}
theorem Ho.at0g(h:Ho w1 wr B bk pv sv L0 L1)(ha:SD wr w' w1.heap.size 3 1 pv v' L0.length (Ao L0) [.int .i64 x]):
  w'.cell? (B,0)=some pv/\w'.frozen? (B,0)=false:=⟨ha.cell h.b0 h.no0,ha.frz h.b0 h.f0 h.no0⟩
theorem Ho.at1g(h:Ho w1 wr B bk pv sv L0 L1)(ha:SD wr w' w1.heap.size 3 1 sv v' L1.length (Ao L1) [.int .i64 x]):
  w'.cell? (B,1)=some sv/\w'.frozen? (B,1)=false:=⟨ha.cell h.b1 h.no1,ha.frz h.b1 h.f1 h.no1⟩
theorem Ho.blkg{b:Nat}{u:Value}{e:TypeId}{n:Nat}{xs news:List Value}(ha:SD wr w' b e 1 u v' n xs news)(hB:wr.cell? (B,0)=some pv)(h:∀X,u.ownBlock=some X->X≠B):∀X,v'.ownBlock=some X->X≠B:=fun X e=>by
 exact zbC
theorem zb6{P:Prop}(h:P:=by
 rw[List.length_append,show Ao (L0 ++ [x])=Ao L0 ++ [.int .i64 x] from by unfold Ao;simp];exact this):P:=h
theorem Ho.app0g(h:Ho w1 wr B bk pv sv L0 L1)(ha:SD wr w' w1.heap.size 3 1 pv v' L0.length (Ao L0) [.int .i64 x]):
  Ho w1 (w'.setCell (B,0) v') B bk v' sv (L0 ++ [x]) L1:=by
 have hn:=Ho.blkg ha h.b0 h.n0;have hr:=ha.row h.o1 h.ap.symm;refine⟨World.cell?_setCell_same _ _ _ (ha.cell h.b0 h.no0),?_,?_,?_,?_,?_,?_,hr.2.symm,hn,h.n1,h.lb,(ha.ex h.ex (Nat.le_refl _)).setCell (p:=⟨B,0,none⟩) h.lb _⟩
 .rw[Ag ae];exact ha.cell h.b1 h.no0
 .rw[Ag ae];exact ha.cell h.b2 h.no0
 .rw[Ax];exact ha.frz h.b0 h.f0 h.no0
 .rw[Ax];exact ha.frz h.b1 h.f1 h.no0
 .have:=Ac (a:=⟨B,0,none⟩) ha.own (fun e=>hn B e rfl) v';exact zb6
 .exact Ac (a:=⟨B,0,none⟩) hr.1 (fun e=>h.n1 B e rfl) v'
theorem zb7{P:Prop}(h:P:=by
 rw[List.length_append,show Ao (L1 ++ [x])=Ao L1 ++ [.int .i64 x] from by unfold Ao;simp];exact this):P:=h
theorem Ho.app1g(h:Ho w1 wr B bk pv sv L0 L1)(ha:SD wr w' w1.heap.size 3 1 sv v' L1.length (Ao L1) [.int .i64 x]):
  Ho w1 (w'.setCell (B,1) v') B bk pv v' L0 (L1 ++ [x]):=by
 have hn:=Ho.blkg ha h.b0 h.n1;have hr:=ha.row h.o0 h.ap;refine⟨?_,World.cell?_setCell_same _ _ _ (ha.cell h.b1 h.no1),?_,?_,?_,?_,?_,hr.2,h.n0,hn,h.lb,(ha.ex h.ex (Nat.le_refl _)).setCell (p:=⟨B,1,none⟩) h.lb _⟩
 .rw[Ag ae];exact ha.cell h.b0 h.no1
 .rw[Ag ae];exact ha.cell h.b2 h.no1
 .rw[Ax];exact ha.frz h.b0 h.f0 h.no1
 .rw[Ax];exact ha.frz h.b1 h.f1 h.no1
 .exact Ac (a:=⟨B,1,none⟩) hr.1 (fun e=>h.n0 B e rfl) v'
 .have:=Ac (a:=⟨B,1,none⟩) ha.own (fun e=>hn B e rfl) v';exact zb7
end
theorem Ho.new(w1:World)(bk:Int):Ho w1 (w1.alloc (.cells #[.slice none 0 0,.slice none 0 0,bk] 26)) w1.heap.size bk (.slice none 0 0) (.slice none 0 0) [] []:=
 ⟨ag,ag,ag,ag,ag,World.ownsRow_nil _ _ _ _,World.ownsRow_nil _ _ _ _,AR.nil _,by simp[Value.ownBlock],by simp[Value.ownBlock],Nat.le_refl _,(Ex.refl _).alloc _⟩
def cP(al bl:List Int)(i:Nat):Int:=bl.getD (BF al i) 0
def cS(p m:Nat)(ml al aB bs:List Int)(aA i:Nat):Int:=
 ((Ai p m (lw ml) (Ar (p^m) (bs.getD (BF al i) 0)) (Tz p m (lw ml) (Ar (p^m) (aB.getD i 0)) aA):Nat):Int)
theorem Kz(w:World)(p m:Int)(ml:List Int)(mv:Value)(aB:Al w mv ml)(aA:Int)(rows:List (List Int))(v:Value)(hv:BZ w v rows)(h0:DI p m ml aA rows=0->1<=aA):
  Calls Tryz.prog 149 #[.agg #[p,m,mv],.agg #[aA,v]] w fun r w'=>(∃e:Int,r= .returned (.int .i64 e)/\Mt p m ml aA rows e)/\Ex w w':=by
 obtain⟨g0,g1,g2,e0,aD⟩:=AA w p m mv;have aC:=Aa (fun (w':World) (h:Ex w w')=>Mk w' p m ml mv (aB.ex h) aA rows v (hv.ex h) h0);obtain⟨za,zc,rfl,-,z2,-⟩:=hv.open;unfold maxLen at z2;obtain⟨ma,mc,rfl,-,m2,-⟩:=aB.open;unfold maxLen at m2;clear aB hv h0;go_enter Tryz.func149,Tryz.ntmps149
 go_wp2_with fail
 refine(aC.o _ (e0.trans ((Ex.refl _).alloc _))).mono ?_;rintro e w2⟨⟨g,c,a1,a2,n1,k1,n2,k2,e',rfl,hs⟩,hx⟩;have HX:=Aa ((e0.trans ((Ex.refl _).alloc (.cells #[aA,.slice za rows.length zc] 137))).trans hx);clear hx g0 g1 g2 e0 aD aC;go_wp2_with fail
 go_ret;exact⟨⟨e',rfl,hs⟩,HX.o.alloc _⟩
def BI(p m:Int)(ml:List Int)(n:Int)(rows:List (List Int))(e:Int):Prop:=
 (Ce p m ml≠0/\e=1)∨(Ce p m ml=0/\ET n≠0/\e=ET n)∨(Ce p m ml=0/\ET n=0/\Mt p m ml n rows e)
theorem D7(w:World)(p m:Int)(ml:List Int)(mv:Value)(aE:Al w mv ml)(n:Int)(rows:List (List Int))(v:Value)(hv:BZ w v rows):
  Calls Tryz.prog 90 #[.agg #[p,m,mv,n,v]] w fun r w'=>(∃e:Int,r= .returned (.int .i64 e)/\BI p m ml n rows e)/\Ex w w':=by
 obtain⟨a0,a1,a2,a3,a4,ea⟩:=EN w p m mv n v;have aH:=Aa (fun (w':World) (h:Ex w w')=>Sx w' p m ml mv (aE.ex h));have aM:=Aa (fun (w':World) (h:Ex w w')=>ZL w' p m mv n rows v (hv.ex h));have aJ:=Aa (fun (h1:ET n=0) (w':World) (h:Ex w w')=>Kz w' p m ml mv (aE.ex h) n rows v (hv.ex h) fun _=>by
  unfold ET at h1;split at h1
  .cases h1
  .omega)
 have aK:=Aa (fun (w':World)=>Lf w' n);obtain⟨za,zc,rfl,-,z2,-⟩:=hv.open;unfold maxLen at z2;obtain⟨ma,mc,rfl,-,m2,-⟩:=aE.open;unfold maxLen at m2;have HE:=Aa ea;obtain⟨F,hF⟩:=nA (Ce p m ml);obtain⟨L,hL⟩:=nA (ET n);have aI:=Aa (show ∀e,((F≠0/\e=1)∨(F=0/\L≠0/\e=L)∨(F=0/\L=0/\Mt p m ml n rows e))->BI p m ml n rows e from fun e h=>by unfold BI;rw[hF,hL];exact h);rw[hF]at aH;rw[hL]at aJ aK;clear aE hv ea hF hL;go_enter Tryz.func90,Tryz.ntmps90
 go_wp2_with fail
 obtain⟨xb,aF⟩:=nA w.heap.size;rw[aF]at a0 a1 a2 a3 a4
 try simp only[aF]
 clear aF;generalize w.alloc (.cells #[p,m,.slice ma ml.length mc,n,.slice za rows.length zc] 39)=w1 at *;refine(aH.o w1 HE.o).mono ?_;rintro e w2⟨rfl,aB⟩;obtain⟨A0,A1,A2,A3,A4,aD⟩:=To (aB.cell a0) (aB.cell a1) (aB.cell a2) (aB.cell a3) (aB.cell a4) (HE.o.trans aB);clear a0 a1 a2 a3 a4 aB aH HE;by_cases h1:F=0
 .subst h1;have a3:=A3.o;go_wp2_with fail
  refine(aK.o w2).mono ?_;rintro e w3⟨rfl,rfl⟩;by_cases h2:L=0
  .subst h2;have aG:=Aa (aJ.o rfl);have aA:=Aa (fun e h=>aI.o e (.inr (.inr ⟨by trivial,by trivial,h⟩)));go_wp2_with fail
   have aC:=Aa (fun (w':World) (h':Ex w3 w')=>(⟨h'.cell A0.o,h'.cell A1.o,h'.cell A2.o,h'.cell A3.o,h'.cell A4.o⟩:w'.cell? (xb,0)=some (.int .i64 p)/\w'.cell? (xb,1)=some (.int .i64 m)/\w'.cell? (xb,2)=some (.slice ma ml.length mc)/\w'.cell? (xb,3)=some (.int .i64 n)/\w'.cell? (xb,4)=some (.slice za rows.length zc)));have G0:Ex w3 w3.drew:=(Ex.refl w3).drew;clear a3
   go_region_held3 (fun w'=>w'.cell? (xb,0)=some (.int .i64 p)/\w'.cell? (xb,1)=some (.int .i64 m)/\w'.cell? (xb,2)=some (.slice ma ml.length mc)/\w'.cell? (xb,3)=some (.int .i64 n)/\w'.cell? (xb,4)=some (.slice za rows.length zc))
    (first|with_reducible exact aC.o _ X4|with_reducible exact aC.o _ X3|with_reducible exact aC.o _ G0)
    (first|(go_at_call 104;(with_reducible refine(aM.o _ (aD.o.trans G0)).mono ?_);rintro e w5⟨rfl,h3⟩;have X3:=G0.trans h3;clear h3)|(go_at_call 149;(with_reducible refine(aG.o _ (aD.o.trans X3)).mono ?_);rintro e w4⟨⟨e4,rfl,aL⟩,h4⟩;have X4:=X3.trans h4;clear h4))
   go_wp2_with fail
   go_ret;exact⟨⟨_,rfl,aA.o _ aL⟩,aD.o.trans X4⟩
  .have hb:(L !=0)=true:=by simpa using h2
   have aA:=Aa (aI.o L (.inr (.inl ⟨by trivial,h2,rfl⟩)));clear h2 a3;go_wp2_with fail
   go_ret;exact⟨⟨_,rfl,aA.o⟩,aD.o⟩
 .have hb:(F !=0)=true:=by simpa using h1
  have aA:=Aa (aI.o 1 (.inl ⟨h1,rfl⟩));clear h1;go_wp2_with fail
  go_ret;exact⟨⟨_,rfl,aA.o⟩,aD.o⟩
structure BxC(w:World)(b:Nat):Prop where
 c0:w.cell? (b,0)=some (.int .i64 0)
 c1:w.cell? (b,1)=some (.int .i64 0)
 c2:w.cell? (b,2)=some (.slice none 0 0)
 c3:w.cell? (b,3)=some (.int .i64 0)
 c4:w.cell? (b,4)=some (.slice none 0 0)
 f0:w.frozen? (b,0)=false
 f1:w.frozen? (b,1)=false
 f2:w.frozen? (b,2)=false
 f3:w.frozen? (b,3)=false
 f4:w.frozen? (b,4)=false
theorem BxC.new(w:World):BxC (w.alloc (.cells #[(0:Int),(0:Int),.slice none 0 0,(0:Int),.slice none 0 0] 39)) w.heap.size:=⟨ag,ag,ag,ag,ag,ag,ag,ag,ag,ag⟩
theorem BxC.ex{w w':World}{b:Nat}(h:BxC w b)(hx:Ex w w'):BxC w' b:=⟨hx.cell h.c0,hx.cell h.c1,hx.cell h.c2,hx.cell h.c3,hx.cell h.c4,hx.frz h.c0 h.f0,hx.frz h.c1 h.f1,hx.frz h.c2 h.f2,hx.frz h.c3 h.f3,hx.frz h.c4 h.f4⟩
@[reducible] def set5(w:World)(q:Nat)(a b c d e:Value):World:=((((w.setCell ⟨q,0,none⟩ a).setCell ⟨q,1,none⟩ b).setCell ⟨q,2,none⟩ c).setCell ⟨q,3,none⟩ d).setCell ⟨q,4,none⟩ e
theorem DY{w0 w:World}{q:Nat}(hx:Ex w0 w)(hq:w0.heap.size<=q)(a b c d e:Value):Ex w0 (set5 w q a b c d e):=
 ((((hx.setCell (p:=⟨q,0,none⟩) hq _).setCell (p:=⟨q,1,none⟩) hq _).setCell (p:=⟨q,2,none⟩) hq _).setCell (p:=⟨q,3,none⟩) hq _).setCell (p:=⟨q,4,none⟩) hq _
theorem KH{w:World}{q:Nat}{v:Value}{l:List Int}(h:Al w v l)(hq:∀B,v.ownBlock=some B->B≠q)(a b c d e:Value):Al (set5 w q a b c d e) v l:=
 Sl.other (Sl.other (Sl.other (Sl.other (Sl.other h (fun B e=>hq B e) _) (fun B e=>hq B e) _) (fun B e=>hq B e) _) (fun B e=>hq B e) _) (fun B e=>hq B e) _
def OfR(p m:Int)(ml:List Int)(aA:Int)(v:Value)(e:Int)(r:Ending)(w':World)(base:Nat):Prop:=
 (e≠0/\r= .returned (.tuple #[.agg #[(0:Int),(0:Int),.slice none 0 0,(0:Int),.slice none 0 0],e]))∨
 (e=0/\∃v',r= .returned (.tuple #[.agg #[p,m,v',aA,v],(0:Int)])/\Al w' v' ml/\∀B,v'.ownBlock=some B->base<=B)
theorem LO(w:World)(p m:Int)(ml:List Int)(mv:Value)(aG:Al w mv ml)(hn:ml.length<=1000)(aA:Int)(rows:List (List Int))(v:Value)(hv:BZ w v rows)(e:Int):
  Calls Tryz.prog 105 #[.agg #[p,m,mv],.agg #[aA,v],e] w fun r w'=>OfR p m ml aA v e r w' w.heap.size/\Ex w w':=by
 obtain⟨g0,g1,g2,e0,aC⟩:=AA w p m mv;have aV:=Aa (fun (w':World) (h:Ex w w')=>Y8 w' p m ml mv (aG.ex h) hn);obtain⟨za,zc,rfl,-,z2,-⟩:=hv.open;unfold maxLen at z2;obtain⟨ma,mc,rfl,-,m2,-⟩:=aG.open;unfold maxLen at m2;obtain⟨xb,aD⟩:=nA w.heap.size;rw[aD]at g0 g1 g2 aC;clear aG hv hn;go_enter Tryz.func105,Tryz.ntmps105
 by_cases h1:e=0
 .subst h1;go_wp2_with fail
  generalize w.alloc (.cells #[p,m,.slice ma ml.length mc] 24)=wA at *;obtain⟨a0,a1,ea⟩:=CM wA aA (.slice za rows.length zc);have aE:(wA.alloc (.cells #[aA,.slice za rows.length zc] 137)).heap.size=xb+1+1:=by simp[aC]
  rw[aC]at a0 a1;generalize wA.alloc (.cells #[aA,.slice za rows.length zc] 137)=wB at *;have bq:=BxC.new wB;rw[aE]at bq;have eb:Ex wB _:=(Ex.refl wB).alloc (.cells #[(0:Int),(0:Int),.slice none 0 0,(0:Int),.slice none 0 0] 39);obtain⟨A0,A1,G0,G1,G2,EB,aU,BQ,HE⟩:=Ty a0 a1 (ea.cell g0) (ea.cell g1) (ea.cell g2) eb (show wB.heap.size<=xb+1+1 from Nat.le_of_eq aE) bq ((e0.trans ea).trans eb);have aK:(wB.alloc (.cells #[(0:Int),(0:Int),.slice none 0 0,(0:Int),.slice none 0 0] 39)).heap.size=xb+1+1+1:=by simp[aE]
  generalize wB.alloc (.cells #[(0:Int),(0:Int),.slice none 0 0,(0:Int),.slice none 0 0] 39)=wC at *;clear g0 g1 g2 a0 a1 bq e0 ea eb aE aC;have aS:=Aa aD;have aW:=Aa aK;clear aD aK;have X0:Ex wC wC.drew:=(Ex.refl wC).drew;have aB:=Aa (fun (w':World) (h':Ex wB w')=>(⟨h'.cell G0.o,h'.cell G1.o,h'.cell G2.o,h'.cell A0.o,h'.cell A1.o⟩:w'.cell? (xb,0)=some (.int .i64 p)/\w'.cell? (xb,1)=some (.int .i64 m)/\w'.cell? (xb,2)=some (.slice ma ml.length mc)/\w'.cell? (xb+1,0)=some (.int .i64 aA)/\w'.cell? (xb+1,1)=some (.slice za rows.length zc)));have aH:=Aa (fun (w':World) (h':Ex wB w') (a b c d e:Value)=>aB.o _ (DY h' aU.o a b c d e));have Y0:=Aa (EB.o.trans X0)
  go_region_held3 (fun w'=>w'.cell? (xb,0)=some (.int .i64 p)/\w'.cell? (xb,1)=some (.int .i64 m)/\w'.cell? (xb,2)=some (.slice ma ml.length mc)/\w'.cell? (xb+1,0)=some (.int .i64 aA)/\w'.cell? (xb+1,1)=some (.slice za rows.length zc))
   (first|with_reducible exact aB.o _ Y5.o|with_reducible exact aH.o _ Y5.o _ _ _ _ _|with_reducible exact aB.o _ Y0.o)
   (first|(go_at_call 159;(with_reducible refine(aV.o _ (HE.o.trans X0)).mono ?_);rintro e w5⟨v',rfl,aF,aI,h5⟩;have X5:=X0.trans h5;have Y5:=Aa (EB.o.trans X5);obtain⟨q0,q1,q2,q3,q4,aQ,aP,aO,aN,aM⟩:=BQ.o.ex X5;have aT:=Aa aF;have aL:=Aa aI;obtain⟨va,vc,rfl,-,-,-⟩:=aF.open;clear h5 aF aI))
  all_goals
   go_wp2_with fail
   have hsz:wC.drew.heap.size=xb+1+1+1:=aW.o;have hwx:=aS.o;exact bodyPost_ret (v:= .tuple #[.agg #[p,m,.slice va ml.length vc,aA,.slice za rows.length zc],(0:Int)]) (by simp[results,Tryz.results105,go_sem,q0,q1,q2,q3,q4]) rfl ⟨.inr ⟨rfl,_,rfl,KH aT.o (fun B h=>by have:=aL.o B h;omega) _ _ _ _ _,fun B h=>by have:=aL.o B h;omega⟩,DY (HE.o.trans X5) ac _ _ _ _ _⟩
 .have hb:(e !=0)=true:=by simpa using h1
  have HH:=Aa h1;have aJ:=CM (w.alloc (.cells #[p,m,.slice ma ml.length mc] 24)) aA (.slice za rows.length zc);have aR:((w.alloc (.cells #[p,m,.slice ma ml.length mc] 24)).alloc (.cells #[aA,.slice za rows.length zc] 137)).heap.size=xb+1+1:=by simp[aC]
  have bq:=BxC.new ((w.alloc (.cells #[p,m,.slice ma ml.length mc] 24)).alloc (.cells #[aA,.slice za rows.length zc] 137));have HE:=Aa ((e0.trans aJ.2.2).alloc (.cells #[(0:Int),(0:Int),.slice none 0 0,(0:Int),.slice none 0 0] 39));rw[aR]at bq;obtain⟨q0,q1,q2,q3,q4,aQ,aP,aO,aN,aM⟩:=bq;clear h1 aJ g0 g1 g2 e0;go_wp2_with fail
  exact bodyPost_ret (v:= .tuple #[.agg #[(0:Int),(0:Int),.slice none 0 0,(0:Int),.slice none 0 0],e]) (by simp[results,Tryz.results105,go_sem,q0,q1,q2,q3,q4,aD]) rfl ⟨.inl ⟨HH.o,rfl⟩,by first|exact HE.o|exact DY HE.o ac _ _ _ _ _⟩
def K8(p m:Int)(ml:List Int)(aA:Int)(rows:List (List Int)):Int:=if DI p m ml aA rows≠0 then DI p m ml aA rows else ET aA
def CNewR(p m:Int)(ml:List Int)(aA:Int)(rows:List (List Int))(b0:Nat)(r:Ending)(w':World):Prop:=
 (K8 p m ml aA rows≠0/\r= .returned (.tuple #[.agg #[(0:Int),(0:Int),.slice none 0 0,(0:Int),.slice none 0 0],.int .i64 (K8 p m ml aA rows)]))∨
 (K8 p m ml aA rows=0/\∃(pn mn N:Nat) (piv:List Nat) (a':Nat->Nat->Int) (rv v':Value),p=pn/\m=mn/\aA=N/\Ga p m ml/\B6 (pn^mn) N rows=0/\r= .returned (.tuple #[.agg #[p,m,v',N,rv],(0:Int)])/\H7 pn mn ml N rows.length (Ak rows) a' piv/\Al w' v' ml/\BZ w' rv (Aw N piv.length a')/\(∀B,v'.ownBlock=some B->b0<=B)/\∃g blk cap base,b0<=base/\rv= .slice (some ⟨g,0,none⟩) piv.length piv.length/\EM w' base g rows.length N blk cap a' []/\piv.length<=rows.length/\rows.length<=256)
theorem cw{P:Prop}(h:P:=by simp[results,Tryz.results93,go_sem,q0,q1,q2,q3,q4]):P:=h
theorem QG(w:World)(p m:Int)(ml:List Int)(mv:Value)(aG:Al w mv ml)(hn:ml.length<=1000)(aA:Int)(rows:List (List Int))(v:Value)(hv:BZ w v rows)(h0:DI p m ml aA rows=0->1<=aA):
  Calls Tryz.prog 93 #[.agg #[p,m,mv],.agg #[aA,v]] w fun r w'=>CNewR p m ml aA rows w.heap.size r w'/\Ex w w':=by
 obtain⟨g0,g1,g2,e0,aH⟩:=AA w p m mv;have aY:=Aa (fun (w':World) (h:Ex w w')=>Hp w' p m ml mv (aG.ex h) aA rows v (hv.ex h) h0);have aV:=Aa aG;obtain⟨za,zc,rfl,-,z2,-⟩:=hv.open;unfold maxLen at z2;obtain⟨ma,mc,rfl,-,m2,-⟩:=aG.open;unfold maxLen at m2;obtain⟨xb,aL⟩:=nA w.heap.size;rw[aL]at g0 g1 g2 aH;clear aG hv h0;go_enter Tryz.func93,Tryz.ntmps93
 go_wp2_with fail
 generalize w.alloc (.cells #[p,m,.slice ma ml.length mc] 24)=wA at *;obtain⟨a0,a1,ea⟩:=CM wA aA (.slice za rows.length zc);have aM:(wA.alloc (.cells #[aA,.slice za rows.length zc] 137)).heap.size=xb+1+1:=by simp[aH]
 rw[aH]at a0 a1;generalize wA.alloc (.cells #[aA,.slice za rows.length zc] 137)=wB at *;have bq:=BxC.new wB;rw[aM]at bq;have eb:Ex wB _:=(Ex.refl wB).alloc (.cells #[(0:Int),(0:Int),.slice none 0 0,(0:Int),.slice none 0 0] 39);obtain⟨A0,G0,G1,G2,BQ,HE⟩:=To (eb.cell a0) ((ea.trans eb).cell g0) ((ea.trans eb).cell g1) ((ea.trans eb).cell g2) bq ((e0.trans ea).trans eb);have aT:(wB.alloc (.cells #[(0:Int),(0:Int),.slice none 0 0,(0:Int),.slice none 0 0] 39)).heap.size=xb+1+1+1:=by simp[aM]
 generalize wB.alloc (.cells #[(0:Int),(0:Int),.slice none 0 0,(0:Int),.slice none 0 0] 39)=wC at *;have aP:=Aa aT;have aU:=Aa aL;refine(aY.o wC HE.o).mono ?_;clear g0 g1 g2 a0 a1 bq e0 ea eb aM aH aT aL;rintro e w2⟨hc,aD⟩;obtain⟨aI,aZ,bA,A0,G0,G1,G2⟩:=OK (HE.o.trans aD) aD (BQ.o.ex aD) (aD.cell A0.o) (aD.cell G0.o) (aD.cell G1.o) (aD.cell G2.o);clear aD BQ HE aY;rcases hc with⟨hce,pn,mn,N,piv,a',rv,pv,rfl,rfl,rfl,hfb,hmk,rfl,hel,hrv,hpv,g,blk,cap,base,hbase,rfl,hem⟩|⟨hce,rfl⟩
 .have aF:K8 pn mn ml N rows=ET N:=by unfold K8;rw[if_neg (by simp[hce])]
  have HN:=Aa aF;have aW:=Aa (fun (w':World)=>Lf w' (N:Int));obtain⟨L,hL⟩:=nA (ET N);rw[hL]at HN aW;have aS:=(Qx hel).1;have aR:=(EF hmk).2.2.1;obtain⟨bI,aJ,aE,aN⟩:=Eq hem (show piv.length<=rows.length/\rows.length<=256 from⟨aS,aR⟩) (show xb+1+1<base from by have:=aP.o;omega) (show Ga pn mn ml/\B6 (pn^mn) N rows=0/\H7 pn mn ml N rows.length (Ak rows) a' piv from⟨hfb,hmk,hel⟩);obtain⟨pa,pc,rfl,-,-,-⟩:=hpv.open;have aB:=Aa ((Ex.refl w2).alloc (.cells #[N,.slice (some (g,0)) piv.length piv.length] 137));have aO:=Aa (LO _ pn mn ml _ (aV.o.ex (aI.o.trans aB.o)) hn N (Aw N piv.length a') _ (hrv.ex aB.o) L);have g0:=aB.o.cell G0.o;have g1:=aB.o.cell G1.o;have g2:=aB.o.cell G2.o;have a0:=aB.o.cell A0.o;have aQ:=Aa (bA.o.ex aB.o);clear aF hL hce hfb hmk hel hrv hpv hbase hem aS aR;go_wp2_with fail
  refine(aW.o _).mono ?_;rintro e w3⟨rfl,bG⟩;subst bG;go_wp2_with fail
  refine aO.o.mono ?_;rintro e w4⟨ho,aC⟩;have X4:=Aa ((aI.o.trans aB.o).trans aC);have bK:=Aa (bI.o.ex (aB.o.trans aC));have hw:=aU.o;obtain⟨q0,q1,q2,q3,q4,bF,bE,bD,bC,bB⟩:=aQ.o.ex aC;clear aC g0 g1 g2 a0;rcases ho with⟨hz,rfl⟩|⟨hz,v',rfl,hv',hb'⟩
  .have aK:=Aa hz;clear hz;go_wp2_with fail
   exact bodyPost_ret (v:= .tuple #[.agg #[(0:Int),(0:Int),.slice none 0 0,(0:Int),.slice none 0 0],L]) cw rfl ⟨.inl ⟨by rw[HN.o];exact aK.o,by rw[HN.o]⟩,DY X4.o ac _ _ _ _ _⟩
  .subst hz;have HV:=Aa hv';have HB:=Aa (show ∀B,v'.ownBlock=some B->B≠xb+1+1 from fun B h=>by
    have h1:=hb' B h;have h2:=aZ.o.size;have h3:=aP.o;simp at h1;omega)
   have bJ:=Aa (show ∀B,v'.ownBlock=some B->w.heap.size<=B from fun B h=>by
    have h1:=hb' B h;have h2:=aZ.o.size;have h3:=aP.o;simp at h1;omega)
   obtain⟨va,vc,rfl,-,-,-⟩:=hv'.open;clear hv' hb';have aX:=Aa ((((((bK.o.low (A:=⟨xb+1+1,0,none⟩) aE.o (.int .i64 pn)).low (A:=⟨xb+1+1,1,none⟩) aE.o (.int .i64 mn)).low (A:=⟨xb+1+1,2,none⟩) aE.o (.slice va ml.length vc)).low (A:=⟨xb+1+1,3,none⟩) aE.o (.int .i64 N)).low (A:=⟨xb+1+1,4,none⟩) aE.o (.slice (some (g,0)) piv.length piv.length)));have bH:=Aa (aX.o.msl aJ.o.1 aJ.o.2);go_wp2_with fail
   exact bodyPost_ret (v:= .tuple #[.agg #[pn,mn,.slice va ml.length vc,N,.slice (some (g,0)) piv.length piv.length],(0:Int)]) cw rfl ⟨.inr ⟨HN.o,pn,mn,N,piv,a',_,_,rfl,rfl,rfl,aN.o.1,aN.o.2.1,rfl,aN.o.2.2,KH HV.o HB.o _ _ _ _ _,bH.o,bJ.o,g,blk,cap,base,by have:=aE.o;omega,rfl,aX.o,aJ.o.1,aJ.o.2⟩,DY X4.o ac _ _ _ _ _⟩
 .have aF:K8 p m ml aA rows=DI p m ml aA rows:=by unfold K8;rw[if_pos hce]
  have HN:=Aa aF;obtain⟨E,hE⟩:=nA (DI p m ml aA rows);rw[hE]at HN hce ⊢;have hb:(E==0)=false:=by simpa using hce
  have aK:=Aa hce;have aB:=Aa ((Ex.refl w2).alloc (.cells #[(0:Int),.slice none 0 0] 137));have aO:=Aa (LO _ p m ml _ (aV.o.ex (aI.o.trans aB.o)) hn 0 [] (.slice none 0 0) ⟨[],Sl.nil _ 1,fun i r u h=>by simp at h⟩ E);have g0:=aB.o.cell G0.o;have g1:=aB.o.cell G1.o;have g2:=aB.o.cell G2.o;have aQ:=Aa (bA.o.ex aB.o);clear aF hE hce;go_wp2_with fail
  refine aO.o.mono ?_;rintro e w4⟨ho,aC⟩;rcases ho with⟨_,rfl⟩|⟨h,_⟩
  .obtain⟨q0,q1,q2,q3,q4,bF,bE,bD,bC,bB⟩:=aQ.o.ex aC;have X4:=Aa ((aI.o.trans aB.o).trans aC);have hw:=aU.o;clear aC g0 g1 g2;go_wp2_with fail
   exact bodyPost_ret (v:= .tuple #[.agg #[(0:Int),(0:Int),.slice none 0 0,(0:Int),.slice none 0 0],E]) cw rfl ⟨.inl ⟨by rw[HN.o];exact aK.o,by rw[HN.o]⟩,DY X4.o ac _ _ _ _ _⟩
  .exact absurd h aK.o
section
variable (p m:Nat) (ml:List Int)
def KT(x:Int)(u r:Nat->Int)(j:Nat):Int:=if r j=0 then u j else((AG p m (Ar (p^m) (u j)) (CH p m (Ai p m (lw ml) (Ar (p^m) x) (Ar (p^m) (r j)))):Nat):Int)
def Gt(x:Int)(u r:Nat->Int)(c j:Nat):Int:=if j<c then KT p m ml x u r j else u j
def Mm(u:Nat->Int)(pl:Nat)(r:Nat->Int):Nat->Int:=if u pl=0 then u else KT p m ml (u pl) u r
def NX(a:Nat->Nat->Int)(pl:Nat->Nat)(v:Nat->Int):Nat->Nat->Int
 | 0=>v
 | k+1=>Mm p m ml (NX a pl v k) (pl k) (a k)
def Mo(t:Nat)(v:Nat->Int):Int:=Cv (fun j=>v j !=0) t
def ivz(z:Nat):Nat:=if z=0 then 0 else Ed p m ml z
structure Mh where
 n:Nat
 a:Nat->Nat->Int
 pl:Nat->Nat
def Mh.red(e:Mh)(v:Nat->Int):Nat->Int:=NX p m ml e.a e.pl v e.n
def Gr(t:Nat)(e:Mh)(r:Nat->Int):Mh:=
 if 0<=Mo t (e.red p m ml r) then⟨e.n+1,Az e.a e.n (BM p m ml (ivz p m ml (Ar (p^m) (e.red p m ml r (Mo t (e.red p m ml r)).toNat))) (e.red p m ml r)),Az e.pl e.n (Mo t (e.red p m ml r)).toNat⟩ else e
def Hi(t:Nat)(rows:Nat->Nat->Int):Nat->Mh
 | 0=>⟨0,fun _ _=>0,fun _=>0⟩
 | k+1=>Gr p m ml t (Hi t rows k) (rows k)
def Jj(t:Nat)(e:Mh)(rows:Nat->Nat->Int)(n:Nat):Int:=Cv (fun i=>decide (0<=Mo t (e.red p m ml (rows i)))) n
def DZ(sc:List Int)(x:Nat->Int)(i:Nat):Int:=((Ai p m (lw ml) (Ar (p^m) (sc.getD i 0)) (Ar (p^m) (x i)):Nat):Int)
def GX(tl:List Int)(y:Nat->Int)(i:Nat):Int:=y (tl.getD i 0).toNat
def Fb(l1 l2:List (List Int))(tl sc:List Int):Int × Int:=
 let i:=Jj p m ml tl.length (Hi p m ml tl.length (fun i=>GX tl (Ak l2 i)) l2.length) (fun i=>DZ p m ml sc (Ak l1 i)) l1.length
 if 0<=i then(0,i) else
 let k:=Jj p m ml tl.length (Hi p m ml tl.length (fun i=>DZ p m ml sc (Ak l1 i)) l1.length) (fun i=>GX tl (Ak l2 i)) l2.length
 if 0<=k then(1,k) else(-1,-1)
end
def SF(i n:Nat):List Int:=il n (Az (fun _=>0) i 1)
def J0(R1 R2:Nat)(s:Int × Int):List Int:=if s.1=0 then SF s.2.toNat R1 else if s.1=1 then SF s.2.toNat R2 else []
theorem GP{N j:Nat}(h:j<N)(f:Nat->Int):(il N f).getD j 0=f j:=by
 exact zdp
theorem OA(pr:Nat->Bool)(n:Nat):Cv pr n<n/\-1<=Cv pr n:=by
 unfold Cv;split
 .rename_i i h;have:=List.mem_range.1 (List.mem_of_find?_eq_some h);omega
 .omega
theorem Ws(t:Nat)(v:Nat->Int):Mo t v<t/\-1<=Mo t v:=OA _ _
section
variable {p m:Nat} {ml:List Int}
theorem YE{t:Nat}{e:Mh}{r:Nat->Int}(h:∀i,i<e.n->e.pl i<t):∀i,i<(Gr p m ml t e r).n->(Gr p m ml t e r).pl i<t:=by
 have hz:=Ws t (e.red p m ml r);unfold Gr;split
 .intro i hi;simp only at hi ⊢;by_cases e1:i=e.n
  .subst e1;rw[Ab];omega
  .rw[Ad _ _ e1];exact h i ac
 .exact h
theorem Kx(t:Nat)(rows:Nat->Nat->Int):∀k i,i<(Hi p m ml t rows k).n->(Hi p m ml t rows k).pl i<t
 | 0=>fun i hi=>by simp only[Hi]at hi;omega
 | k+1=>YE (Kx t rows k)
theorem spnS_n{t:Nat}{e:Mh}{r:Nat->Int}:(Gr p m ml t e r).n<=e.n+1:=by
 unfold Gr;split
 .simp
 .omega
theorem spn_n(t:Nat)(rows:Nat->Nat->Int):∀k,(Hi p m ml t rows k).n<=k
 | 0=>by simp[Hi]
 | k+1=>by
  have:=spn_n t rows k;have:=spnS_n (p:=p) (m:=m) (ml:=ml) (t:=t) (e:=Hi p m ml t rows k) (r:=rows k);show(Gr p m ml t _ _).n<=_
  omega
end
structure Nd where
 tl:List Int
 sc:List Int
 side:Int
 msg:List Int
def FM{σ:Type}(step:σ->List Int->List Int->σ × Int)(tl sc:List Int)(j:Nat):Nat->σ->σ × Int
 | 0,s=>(s,0)
 | c+1,s=>if (FM step tl sc j c s).2≠0 then FM step tl sc j c s else step (FM step tl sc j c s).1 (tl ++ [(j:Int)]) (sc ++ [((c+1:Nat):Int)])
def Eh{σ:Type}(step:σ->List Int->List Int->σ × Int)(q:Nat)(tl sc:List Int):Nat->σ->σ × Int
 | 0,s=>(s,0)
 | j+1,s=>if (Eh step q tl sc j s).2≠0 then Eh step q tl sc j s else if tl.contains (j:Int) then Eh step q tl sc j s else FM step tl sc j (q-1) (Eh step q tl sc j s).1
def Mj(p m:Nat)(ml:List Int)(l1 l2:List (List Int))(n:Nat):Nat->Nat × List Nd->List Int->List Int->(Nat × List Nd) × Int
 | d,s,tl,sc=>
  if s.1=65536 then(s,8) else
  let w:=Fb p m ml l1 l2 tl sc
  let s1:=(s.1+1,s.2 ++ [⟨tl,sc,w.1,J0 l1.length l2.length w⟩])
  if 0<=w.1 then(s1,0) else if tl.length=n then(s1,18) else
  match d with
  | 0=>(s1,0)
  | d+1=>Eh (Mj p m ml l1 l2 n d) (p^m) tl sc n s1
def FG(f:Nat->Int)(i j:Nat):Int:=if j<i then f j else 0
theorem Ni(f:Nat->Int):FG f 0=fun _=>0:=by funext j;unfold FG;rw[if_neg ac]
theorem Nj(f:Nat->Int)(i:Nat):Az (FG f i) i (f i)=FG f (i+1):=by
 funext j;by_cases e:j=i
 .subst e;rw[Ab];unfold FG;rw[if_pos ac]
 .rw[Ad _ _ e];unfold FG;by_cases h:j<i
  .exact za7
  .exact za8
theorem Qq{f:Nat->Int}{n j:Nat}(h:j<n):FG f n j=f j:=by unfold FG;rw[if_pos h]
theorem AX(w:World)(u v:Value):(w.alloc (.cells #[u,v] 71)).cell? (w.heap.size,0)=some u/\(w.alloc (.cells #[u,v] 71)).cell? (w.heap.size,1)=some v/\Ex w (w.alloc (.cells #[u,v] 71))/\(w.alloc (.cells #[u,v] 71)).heap.size=w.heap.size+1:=
 ⟨ag,ag,(Ex.refl w).alloc _,ag⟩
section
variable {b p m x0:Nat} {ml:List Int}
theorem Ld(w:World)(hg:Bh w b p m ml x0)(A:Nat)(hA:w.cell? (A,0)=some (.pointer (some (b,0))))(N:Nat)(hN:N<=1000)(tl sl x:List Int)(tv sv xv:Value)(ht:Al w tv tl)(hs:Al w sv sl)(hx:Al w xv x)(aP:tl.length=N)(aK:sl.length=N)(hxl:N<=x.length):
  Calls Tryz.prog 228 #[.pointer (some (A,0)),.agg #[tv,sv],xv] w fun r w'=>∃g,r= .returned (.slice (some ⟨g,0,none⟩) N N)/\AH w' w.heap.size 3 g N (iv (DZ p m ml sl fun j=>x.getD j 0))/\Ex w w':=by
 obtain⟨b0,b1,eb,aD⟩:=AX w tv sv;have aZ:=Aa (fun (w1:World) (h1:Ex w w1) (y z:Int)=>Fa w1 (hg.ex h1) y z);obtain⟨ta,tc,rfl,_,t2,_⟩:=ht.open;obtain⟨sa,sc,rfl,_,s2,s3⟩:=hs.open;obtain⟨xa,xc,rfl,_,x2,x3⟩:=hx.open;unfold maxLen at t2 s2 x2;rw[aK]at s3;rw[aP,aK]at b0 b1 eb aD ⊢;obtain⟨S3,X3,bC,bB,aB,HA⟩:=To s3 x3 (fun i (hi:i<N)=>AS (l:=sl) (i:=i) ac) (fun i (hi:i<N)=>AS (l:=x) (i:=i) ac) eb hA;obtain⟨F,hF⟩:∃F,(DZ p m ml sl fun j=>x.getD j 0)=F:=⟨_,rfl⟩;have bD:=Aa (fun i=>congrFun hF i);rw[hF];clear hg ht hs hx s3 x3 eb aP aK hA hF;go_enter Tryz.func228,Tryz.ntmps228
 go_wp2_with (at_make;refine Au _ rfl _ _ 22 rfl 3 (.int .i64 0) 8 Tryz.underlying22 AC rfl _ N rfl rfl rfl ac ai ?_)
 obtain⟨B,hB⟩:=nA w.heap.size;rw[hB]at b0 b1 aD
 try simp only[hB]
 have bF:=Aa hB;clear hB;generalize w.alloc (.cells #[.slice ta N tc,.slice sa N sc] 71)=w1 at *;intro w3 aA aJ;have B0:=Aa b0;have B1:=Aa b1;obtain⟨g,aE⟩:=nA (B+1);have aS:=Aa (show AH w3 g 3 g N (iv (FG F 0)) from by rw[<-aE,Ni];exact aA)
 try simp only[aE]
 have aX:=Aa aJ;have aU:=Aa (show w1.heap.size=g from by rw[<-aE,<-aD]);have aW:=aJ.cell b1;clear aA aJ b0 b1 aE aD;go_wp2_with fail
 go_loopw [17] (fun i' wr=>∃(i:Nat),i<=N/\i'= .int .i64 i/\Hia (AH wr g 3 g N (iv (FG F i)))/\Hia (Ex w1 wr)) (fun i' _=>N-(intOf i').toNat)
 case atStart=>exact⟨0,ac,rfl,aS,aX⟩
 case round=>
  clear aS aW;obtain⟨i,hi,rfl,aA,aF⟩:=hrel;by_cases hin:i<N
  .obtain⟨sb,so,rfl,aQ⟩:=S3.o ac;obtain⟨xb,xo,rfl,aO⟩:=X3.o ac;have aI:=Aa (aB.o.trans aF.o);obtain⟨s,hs⟩:=nA (sl.getD i 0);have aM:=bC.o i hin;rw[hs]at aM;have cs:=aI.o.cell (aQ i _ aM);obtain⟨z,hz⟩:=nA (x.getD i 0);have aL:=bB.o i hin;rw[hz]at aL;have aV:=Aa (aO i _ aL);have i1:(0:Int)<=(i:Int):=by omega
   have i2:(i:Int)<(N:Int):=ac;have i3:(i:Int)<(x.length:Int):=ac;have aT:=Aa (fun (w5:World) (h5:Ex wr w5)=>aZ.o w5 (aI.o.trans h5) s z);obtain⟨u,hu⟩:=nA (Ai p m (lw ml) (Ar (p^m) s) (Ar (p^m) z));rw[hu]at aT;have aY:=Aa (show Az (FG F i) i (u:Int)=FG F (i+1) from by
    rw[<-Nj,<-bD.o i];show _=Az (FG F i) i ((Ai p m (lw ml) (Ar (p^m) (sl.getD i 0)) (Ar (p^m) (x.getD i 0)):Nat):Int)
    rw[hs,hz,hu])
   have aH:=Aa aA.o;have bE:=Aa aF.o;have aG:=Aa (fun (w5:World) (h5:Ex wr w5)=>(aH.o.ex h5).exSet (a:=w1) (Nat.le_of_eq aU.o) (bE.o.trans h5) i (.int .i64 (u:Int)));have aR:=Aa (fun (w5:World) (h5:Ex wr w5)=>show AH (w5.setCell (g,i) (.int .i64 (u:Int))) g 3 g N (iv (FG F (i+1))) from by
    rw[<-aY.o,<-CC];exact(aH.o.ex h5).set i _)
   have bA:=Aa hin;have aC:=Aa (fun (w5:World) (h5:Ex wr w5)=>(⟨(aI.o.trans h5).cell HA.o,(aI.o.trans h5).cell aV.o⟩:w5.cell? (A,0)=some (.pointer (some (b,0)))/\w5.cell? (xb,xo+i)=some (.int .i64 z)));have aN:=Aa (fun (w5:World) (h5:Ex wr w5)=>(⟨(aB.o.trans (aG.o w5 h5)).cell HA.o,(aB.o.trans (aG.o w5 h5)).cell aV.o⟩:(w5.setCell (g,i) (.int .i64 (u:Int))).cell? (A,0)=some (.pointer (some (b,0)))/\(w5.setCell (g,i) (.int .i64 (u:Int))).cell? (xb,xo+i)=some (.int .i64 z)));clear hs aM hz aL hu aQ aO aA aF;go_wp2_with fail
   have G0:Ex wr wr.drew:=(Ex.refl wr).drew
   go_region_held3 (fun w'=>w'.cell? (A,0)=some (.pointer (some (b,0)))/\w'.cell? (xb,xo+i)=some (.int .i64 z))
    (first|with_reducible exact aC.o _ G0|with_reducible exact aC.o _ X6|with_reducible exact aN.o _ X6)
    (first|(go_at_call 106;(with_reducible refine(aT.o _ G0).mono ?_);rintro e w6⟨rfl,n6,rfl⟩;have X6:Ex wr (wr.drewN (1+n6)):=(Ex.refl wr).drewN (1+n6);have co6:=(aH.o.ex X6).cell bA.o;have cf6:=(aH.o.ex X6).frz i))
   go_wp2_with fail
   go_roundw
   case rel=>first|exact⟨i+1,ac,by go_num,Aa (aR.o _ X6),Aa (aG.o _ X6)⟩|((repeat apply Exists.intro);exact⟨⟨i+1,ac,by go_num,Aa (aR.o _ X6),Aa (aG.o _ X6)⟩,rfl⟩)
   case measure=>simp[intOf];omega
  .obtain rfl:i=N:=by omega
   go_wp2_with fail
   go_ret;exact⟨g,rfl,(aA.o.mono (by have:=aU.o;have:=bF.o;have:=aB.o.size;omega)).icongr fun j hj=>Qq hj,aB.o.trans aF.o⟩
end
theorem KM(w:World)(A:Nat)(N:Nat)(hN:N<=1000)(tl y:List Int)(tv sv yv:Value)(ht:Al w tv tl)(hy:Al w yv y)(aF:tl.length=N)(hr:BB tl y.length=true):
  Calls Tryz.prog 227 #[.pointer (some (A,0)),.agg #[tv,sv],yv] w fun r w'=>∃g,r= .returned (.slice (some ⟨g,0,none⟩) N N)/\AH w' w.heap.size 3 g N (iv (GX tl fun j=>y.getD j 0))/\Ex w w':=by
 obtain⟨b0,b1,eb,aB⟩:=AX w tv sv;obtain⟨ta,tc,rfl,_,t2,t3⟩:=ht.open;obtain⟨ya,yc,rfl,_,y2,y3⟩:=hy.open;unfold maxLen at t2 y2;rw[aF]at t3;rw[aF]at b0 b1 eb aB ⊢;obtain⟨T3,Y3,aW,aY,aX,aI⟩:=To t3 y3 (fun i (hi:i<N)=>Df hr (i:=i) ac) (fun i (hi:i<N)=>AS (l:=tl) (i:=i) ac) (fun i (hi:i<y.length)=>AS (l:=y) (i:=i) hi) eb;obtain⟨F,hF⟩:∃F,(GX tl fun j=>y.getD j 0)=F:=⟨_,rfl⟩;have aZ:=Aa (fun i=>congrFun hF i);rw[hF];clear ht hy t3 y3 eb aF hF hr;go_enter Tryz.func227,Tryz.ntmps227
 go_wp2_with (at_make;refine Au _ rfl _ _ 22 rfl 3 (.int .i64 0) 8 Tryz.underlying22 AC rfl _ N rfl rfl rfl ac ai ?_)
 obtain⟨B,hB⟩:=nA w.heap.size;rw[hB]at b0 b1 aB
 try simp only[hB]
 have bA:=Aa hB;clear hB;generalize w.alloc (.cells #[.slice ta N tc,sv] 71)=w1 at *;intro w3 aA aE;have B0:=Aa b0;obtain⟨g,aC⟩:=nA (B+1);have aO:=Aa (show AH w3 g 3 g N (iv (FG F 0)) from by rw[<-aC,Ni];exact aA)
 try simp only[aC]
 have aU:=Aa aE;have aP:=Aa (show w1.heap.size=g from by rw[<-aC,<-aB]);have aT:=aE.cell b0;clear aA aE b0 b1 aC aB;go_wp2_with fail
 go_loopw [17] (fun i' wr=>∃(i:Nat),i<=N/\i'= .int .i64 i/\Hia (AH wr g 3 g N (iv (FG F i)))/\Hia (Ex w1 wr)) (fun i' _=>N-(intOf i').toNat)
 case atStart=>exact⟨0,ac,rfl,aO,aU⟩
 case round=>
  clear aO aT;obtain⟨i,hi,rfl,aA,aD⟩:=hrel;by_cases hin:i<N
  .obtain⟨tb,to_,rfl,aK⟩:=T3.o ac;have aQ:=Aa (aI.o.trans aD.o);have aR:=aW.o i hin;obtain⟨k,hk⟩:=nA ((tl.getD i 0).toNat);have aL:tl.getD i 0=(k:Int):=by omega
   have aS:k<y.length:=ac;obtain⟨yb,yo,rfl,aJ⟩:=Y3.o ac;have aH:=aY.o i hin;rw[aL]at aH;have ct:=aQ.o.cell (aK i _ aH);obtain⟨z,hz⟩:=nA (y.getD k 0);have aG:=aX.o k aS;rw[hz]at aG;have cy:=aQ.o.cell (aJ k _ aG);have i1:(0:Int)<=(i:Int):=bf;have i2:(i:Int)<(N:Int):=ac;have i3:(0:Int)<=(k:Int):=ac;have i4:(k:Int)<(y.length:Int):=ac;have aV:=Aa (show Az (FG F i) i z=FG F (i+1) from by
    rw[<-Nj,<-aZ.o i];show _=Az (FG F i) i (y.getD (tl.getD i 0).toNat 0)
    rw[hk,hz])
   have co:=aA.o.cell hin;have cf:=aA.o.frz i;have aM:=Aa (aA.o.exSet (a:=w1) (Nat.le_of_eq aP.o) aD.o i (.int .i64 z));have aN:=Aa (show AH (wr.setCell (g,i) (.int .i64 z)) g 3 g N (iv (FG F (i+1))) from by
    rw[<-aV.o,<-CC];exact aA.o.set i _)
   clear aR hk aL aH hz aG aK aJ aA aD;go_wp2_with fail
   go_roundw
   case rel=>first|exact⟨i+1,ac,by go_num,aN,aM⟩|((repeat apply Exists.intro);exact⟨⟨i+1,ac,by go_num,aN,aM⟩,rfl⟩)
   case measure=>simp[intOf];omega
  .obtain rfl:i=N:=by omega
   go_wp2_with fail
   go_ret;exact⟨g,rfl,(aA.o.mono (by have:=aP.o;have:=bA.o;have:=aI.o.size;omega)).icongr fun j hj=>Qq hj,aI.o.trans aD.o⟩
def E3(n:Nat)(f g:Nat->Nat):Prop:=(∀i,i<n->f i=g i)∨∃i,i<n/\(∀j,j<i->f j=g j)/\f i<g i
theorem E3.antisymm{n:Nat}{f g:Nat->Nat}(hf:Be n f)(hg:Be n g)(h:E3 n f g)(k:E3 n g f):f=g:=by
 rcases h with h|⟨i,hi,h1,h2⟩
 .exact G5 hf hg h
 .rcases k with k|⟨j,hj,k1,k2⟩
  .have:=k i hi;omega
  .rcases Nat.lt_trichotomy i j with e|e|e
   .have:=k1 i e;omega
   .subst e;omega
   .have:=h1 j e;omega
def CZ(R:Nat->Option (Nat->Nat))(p:Nat->Nat)(c:Nat):Nat->Nat
 | 0=>c
 | x+1=>if (R x).isSome=true/\p x<p (CZ R p c x) then x else CZ R p c x
theorem GT{R:Nat->Option (Nat->Nat)}{p:Nat->Nat}{c:Nat}(hc:(R c).isSome=true):∀x,(R (CZ R p c x)).isSome=true/\(∀y,y<x->(R y).isSome=true->p (CZ R p c x)<=p y)/\p (CZ R p c x)<=p c
 | 0=>⟨hc,fun y h=>by omega,Nat.le_refl _⟩
 | x+1=>by
  obtain⟨h1,h2,h3⟩:=GT (p:=p) hc x;unfold CZ;split
  .rename_i h;refine⟨h.1,fun y hy hr=>?_,ac⟩;by_cases e:y=x
   .subst e;exact Nat.le_refl _
   .have:=h2 y ac hr;omega
  .rename_i h;refine⟨h1,fun y hy hr=>?_,h3⟩;by_cases e:y=x
   .subst e;apply Classical.byContradiction;intro hn;exact h ⟨hr,ac⟩
   .exact h2 y ac hr
def TN(n:Nat)(R:Nat->Nat->Option (Nat->Nat)):Nat->Nat->(Nat->Nat)->(Nat->Nat)
 | 0,_,p=>p
 | k+1,c,p=>TN n R k (c+1) (Aq ((R c (CZ (R c) p c n)).getD Ek) p)
theorem QJ{n:Nat}{t:Tw}(hG:C7 n t):∀k c p,c+k=n->Be n p->
  (∃h,Be n h/\A5 c h/\Sf n t.R k c h/\TN n t.R k c p=Aq h p)/\∀h,Be n h->A5 c h->Sf n t.R k c h->E3 n (TN n t.R k c p) (Aq h p)
 | 0,c,p,hc,hp=>by
  refine⟨⟨Ek,Fk n,Jr _,trivial,rfl⟩,fun h hP hF _=> .inl fun i hi=>?_⟩;have:h=Ek:=A5.all hP (by
    have:c=n:=ac;subst this;exact hF)
  subst this;rfl
 | k+1,c,p,hc,hp=>by
  have aF:=hG.one c ac;obtain⟨aL,aK,_⟩:=GT (R:=t.R c) (p:=p) (c:=c) (by rw[aF];rfl) n;obtain⟨r,hr⟩:=Option.isSome_iff_exists.1 aL;obtain⟨_,hbn,aB,aE,aD⟩:=hG.rep _ _ _ hr;obtain⟨⟨h0,aN,aH,aM,aG⟩,hL⟩:=QJ hG k (c+1) (Aq r p) ac (aB.comp hp);have he:TN n t.R (k+1) c p=TN n t.R k (c+1) (Aq r p):=by
   show TN n t.R k (c+1) (Aq ((t.R c (CZ (t.R c) p c n)).getD Ek) p)=_
   rw[hr];rfl
  rw[he];have aC:∀i,i<c->h0 i=i:=fun i hi=>aH i ac;refine⟨⟨Aq h0 r,aN.comp aB,fun i hi=>?_,⟨r,?_,?_⟩,?_⟩,fun h hP hF hS=>?_⟩
  .show r (h0 i)=i
   rw[aC i hi,aE i hi]
  .show t.R c (r (h0 c))=some r
   rw[aH c ac,aD];exact hr
  .rw[EY,aB.then_inv];exact aM
  .rw[aG];rfl
  .obtain⟨s,aA,aJ⟩:=hS;obtain⟨_,aI,hsP,hsF,hsb⟩:=hG.rep _ _ _ aA;have hle:=aK (h c) aI (by rw[aA];rfl);by_cases e:p (CZ (t.R c) p c n)=p (h c)
   .have e2:=hp.inj _ _ e;rw[<-e2,hr]at aA;injection aA with aA;subst aA;have:=hL (Aq h (A8 n r)) (hP.comp aB.inv) (hF.div aB aE (by rw[aD,e2])) aJ
    rwa[<-EY,aB.cancel]at this
   .right;refine⟨c,ac,fun j hj=>?_,?_⟩
    .rw[aG];show p (r (h0 j))=p (h j)
     rw[aC j hj,aE j hj,hF j hj]
    .rw[aG];show p (r (h0 c))<p (h c)
     rw[aH c ac,aD];omega
structure EO(n:Nat)(S:List (Nat->Nat))(b x:Nat)(f:Nat->Nat):Prop where
 gn:Gn S f
 fix:A5 b f
 at_:f b=x
 le:∀g,Gn S g->A5 b g->g b=x->E3 n f g
theorem EO.uniq{n:Nat}{S:List (Nat->Nat)}(hS:∀s∈S,Be n s){b x:Nat}{f g:Nat->Nat}(hf:EO n S b x f)(hg:EO n S b x g):f=g:=
 E3.antisymm (hf.gn.isP hS) (hg.gn.isP hS) (hf.le g hg.gn hg.fix hg.at_) (hg.le f hf.gn hf.fix hf.at_)
theorem IZ.canon{n k:Nat}{S:List (Nat->Nat)}{t:Tw}(hn:1<=n)(hS:∀s∈S,Be n s)(h:IZ n S t k)(hk:S.length<=k){b x:Nat}(hb:b<n){r:Nat->Nat}(hr:t.R b x=some r):EO n S b x (TN n t.R (n-(b+1)) (b+1) r):=by
 obtain⟨_,_,aA,aF,aD⟩:=h.good.rep _ _ _ hr;obtain⟨⟨h0,aJ,aC,aI,aB⟩,hL⟩:=QJ h.good (n-(b+1)) (b+1) r ac aA;have aK:=(h.grp hn hS hk ac aJ aC).1 aI;have aE:Gn S r:=h.snd.1 b x r (Nat.zero_le _) hr;refine⟨by rw[aB];exact aK.mul aE,fun i hi=>?_,?_,fun g hg hF aH=>?_⟩
 .rw[aB];show r (h0 i)=i
  rw[aC i ac,aF i hi]
 .rw[aB];show r (h0 b)=x
  rw[aC b ac,aD]
 .have aG:=hg.isP hS;have h1:A5 (b+1) (Aq g (A8 n r)):=hF.div aA aF (by rw[aD,aH]);have h2:=(h.grp hn hS hk ac (aG.comp aA.inv) h1).2 (hg.mul (aE.inv hS));have:=hL _ (aG.comp aA.inv) h1 h2
  rwa[aA.cancel]at this
open Classical in
noncomputable def Fi (n:Nat) (S:List (Nat->Nat)) (b x:Nat):Nat->Nat:=if h:∃f,EO n S b x f then Classical.choose h else Ek
open Classical in
theorem Kf {n:Nat} {S:List (Nat->Nat)} (hS:∀s∈S,Be n s) {b x:Nat} {f:Nat->Nat} (h:EO n S b x f):Fi n S b x=f:=by
 have he:∃f,EO n S b x f:=⟨f,h⟩;unfold Fi;rw[dif_pos he];exact EO.uniq hS (Classical.choose_spec he) h
structure Lv where
 pt:Int
 orb:List Int
 reps:List (List Int)
end Go.Proofs.YtehieobniamagaaGreat
