/- Walk of equivalence.Compose. -/
import Derived.Deep.AppendLies
import Derived.Test.YtehieobniamagaaGreatZm13
namespace Go.Proofs.YtehieobniamagaaGreat
open Go.RowKit
set_option linter.all false
set_option maxRecDepth 100000
set_option maxHeartbeats 4000000
theorem Ax(w:World)(a b:Addr)(u:Value):(w.setCell a u).frozen? b=w.frozen? b:=ag
structure Ha(w1 wr:World)(B:Nat)(bk:Int)(pv sv:Value)(L0 L1:List Int):Prop where
 b0:wr.cell? ⟨B,0,none⟩=some pv
 b1:wr.cell? ⟨B,1,none⟩=some sv
 b2:wr.cell? ⟨B,2,none⟩=some (.int .i64 bk)
 f0:wr.frozen? ⟨B,0,none⟩=false
 f1:wr.frozen? ⟨B,1,none⟩=false
 o0:wr.ownsRow w1.heap.size 3 1 pv L0.length (An L0)
 o1:wr.ownsRow w1.heap.size 3 1 sv L1.length (An L1)
 ap:AP pv sv
 n0:∀X,pv.ownBlock=some X->X≠B
 n1:∀X,sv.ownBlock=some X->X≠B
 lb:w1.heap.size<=B
 ex:Ex w1 wr
section
variable {w1 wr w':World} {B:Nat} {bk:Int} {pv sv v':Value} {L0 L1:List Int} {x:Int}
theorem Ha.later(h:Ha w1 wr B bk pv sv L0 L1)(hx:Ex wr w'):Ha w1 w' B bk pv sv L0 L1:=
 ⟨hx.cell h.b0,hx.cell h.b1,hx.cell h.b2,hx.frz h.b0 h.f0,hx.frz h.b1 h.f1,Ai h.o0 hx,Ai h.o1 hx,h.ap,h.n0,h.n1,h.lb,h.ex.trans hx⟩
theorem Ha.no0(h:Ha w1 wr B bk pv sv L0 L1):some B≠pv.ownBlock:=fun e=>h.n0 B e.symm rfl
theorem Ha.no1(h:Ha w1 wr B bk pv sv L0 L1):some B≠sv.ownBlock:=fun e=>h.n1 B e.symm rfl
theorem zbA{P:Prop}(h:P:=by
 have aA:=World.block_lt_of_cell? _ _ hB;rcases ha.at_ with h1|h1
 .rw[h1]at e;exact h X e
 .rw[h1]at e;injection e with e;have:B<wr.heap.size:=aA;omega):P:=h
theorem Ha.blk{b:Nat}{u:Value}{e:TypeId}{n:Nat}{xs news:List Value}(ha:Bt wr w' b e 1 u v' n xs news)(hB:wr.cell? ⟨B,0,none⟩=some pv)(h:∀X,u.ownBlock=some X->X≠B):∀X,v'.ownBlock=some X->X≠B:=fun X e=>by
 exact zbA
end
section
variable {w1 wr w':World} {B:Nat} {bk:Int} {pv sv v':Value} {L0 L1:List Int} {x:Int}
theorem Ha.at0g(h:Ha w1 wr B bk pv sv L0 L1)(ha:R6 wr w' w1.heap.size 3 1 pv v' L0.length (An L0) [.int .i64 x]):
  w'.cell? ⟨B,0,none⟩=some pv/\w'.frozen? ⟨B,0,none⟩=false:=⟨ha.cell h.b0 h.no0,ha.frz h.b0 h.f0 h.no0⟩
theorem Ha.at1g(h:Ha w1 wr B bk pv sv L0 L1)(ha:R6 wr w' w1.heap.size 3 1 sv v' L1.length (An L1) [.int .i64 x]):
  w'.cell? ⟨B,1,none⟩=some sv/\w'.frozen? ⟨B,1,none⟩=false:=⟨ha.cell h.b1 h.no1,ha.frz h.b1 h.f1 h.no1⟩
theorem Ha.blkg{b:Nat}{u:Value}{e:TypeId}{n:Nat}{xs news:List Value}(ha:R6 wr w' b e 1 u v' n xs news)(hB:wr.cell? ⟨B,0,none⟩=some pv)(h:∀X,u.ownBlock=some X->X≠B):∀X,v'.ownBlock=some X->X≠B:=fun X e=>by
 exact zbA
theorem zb3{P:Prop}(h:P:=by
 rw[List.length_append,show An (L0 ++ [x])=An L0 ++ [.int .i64 x] from by unfold An;simp];exact this):P:=h
theorem Ha.app0g(h:Ha w1 wr B bk pv sv L0 L1)(ha:R6 wr w' w1.heap.size 3 1 pv v' L0.length (An L0) [.int .i64 x]):
  Ha w1 (w'.setCell ⟨B,0,none⟩ v') B bk v' sv (L0 ++ [x]) L1:=by
 have hn:=Ha.blkg ha h.b0 h.n0;have hr:=ha.row h.o1 h.ap.symm;refine⟨World.cell?_setCell_same _ _ _ (ha.cell h.b0 h.no0),?_,?_,?_,?_,?_,?_,hr.2.symm,hn,h.n1,h.lb,(ha.ex h.ex (Nat.le_refl _)).setCell (p:=⟨B,0,none⟩) h.lb _⟩
 .rw[Ag ae];exact ha.cell h.b1 h.no0
 .rw[Ag ae];exact ha.cell h.b2 h.no0
 .rw[Ax];exact ha.frz h.b0 h.f0 h.no0
 .rw[Ax];exact ha.frz h.b1 h.f1 h.no0
 .have:=Ac (a:=⟨B,0,none⟩) ha.own (fun e=>hn B e rfl) v';exact zb3
 .exact Ac (a:=⟨B,0,none⟩) hr.1 (fun e=>h.n1 B e rfl) v'
theorem zb4{P:Prop}(h:P:=by
 rw[List.length_append,show An (L1 ++ [x])=An L1 ++ [.int .i64 x] from by unfold An;simp];exact this):P:=h
theorem Ha.app1g(h:Ha w1 wr B bk pv sv L0 L1)(ha:R6 wr w' w1.heap.size 3 1 sv v' L1.length (An L1) [.int .i64 x]):
  Ha w1 (w'.setCell ⟨B,1,none⟩ v') B bk pv v' L0 (L1 ++ [x]):=by
 have hn:=Ha.blkg ha h.b0 h.n1;have hr:=ha.row h.o0 h.ap;refine⟨?_,World.cell?_setCell_same _ _ _ (ha.cell h.b1 h.no1),?_,?_,?_,?_,?_,hr.2,h.n0,hn,h.lb,(ha.ex h.ex (Nat.le_refl _)).setCell (p:=⟨B,1,none⟩) h.lb _⟩
 .rw[Ag ae];exact ha.cell h.b0 h.no1
 .rw[Ag ae];exact ha.cell h.b2 h.no1
 .rw[Ax];exact ha.frz h.b0 h.f0 h.no1
 .rw[Ax];exact ha.frz h.b1 h.f1 h.no1
 .exact Ac (a:=⟨B,1,none⟩) hr.1 (fun e=>h.n0 B e rfl) v'
 .have:=Ac (a:=⟨B,1,none⟩) ha.own (fun e=>hn B e rfl) v';exact zb4
end
theorem Ha.new(w1:World)(bk:Int):Ha w1 (w1.alloc (.cells #[.slice none 0 0,.slice none 0 0,.int .i64 bk] 26)) w1.heap.size bk (.slice none 0 0) (.slice none 0 0) [] []:=
 ⟨ag,ag,ag,ag,ag,World.ownsRow_nil _ _ _ _,World.ownsRow_nil _ _ _ _,AP.nil _,by simp[Value.ownBlock],by simp[Value.ownBlock],Nat.le_refl _,(Ex.refl _).alloc _⟩
def cP(al bl:List Int)(i:Nat):Int:=bl.getD (BD al i) 0
def cS(p m:Nat)(ml al aB bs:List Int)(aA i:Nat):Int:=
 ((Ak p m (lw ml) (Au (p^m) (bs.getD (BD al i) 0)) (S2 p m (lw ml) (Au (p^m) (aB.getD i 0)) aA):Nat):Int)
structure ZI(w:World)(b:Nat):Prop where
 c0:w.cell? ⟨b,0,none⟩=some (.int .i64 0)
 c1:w.cell? ⟨b,1,none⟩=some (.int .i64 0)
 c2:w.cell? ⟨b,2,none⟩=some (.slice none 0 0)
 c3:w.cell? ⟨b,3,none⟩=some (.int .i64 0)
 c4:w.cell? ⟨b,4,none⟩=some (.slice none 0 0)
 f0:w.frozen? ⟨b,0,none⟩=false
 f1:w.frozen? ⟨b,1,none⟩=false
 f2:w.frozen? ⟨b,2,none⟩=false
 f3:w.frozen? ⟨b,3,none⟩=false
 f4:w.frozen? ⟨b,4,none⟩=false
theorem ZI.new(w:World):ZI (w.alloc (.cells #[.int .i64 0,.int .i64 0,.slice none 0 0,.int .i64 0,.slice none 0 0] 39)) w.heap.size:=⟨ag,ag,ag,ag,ag,ag,ag,ag,ag,ag⟩
theorem ZI.ex{w w':World}{b:Nat}(h:ZI w b)(hx:Ex w w'):ZI w' b:=⟨hx.cell h.c0,hx.cell h.c1,hx.cell h.c2,hx.cell h.c3,hx.cell h.c4,hx.frz h.c0 h.f0,hx.frz h.c1 h.f1,hx.frz h.c2 h.f2,hx.frz h.c3 h.f3,hx.frz h.c4 h.f4⟩
@[reducible] def set5(w:World)(q:Nat)(a b c d e:Value):World:=((((w.setCell ⟨q,0,none⟩ a).setCell ⟨q,1,none⟩ b).setCell ⟨q,2,none⟩ c).setCell ⟨q,3,none⟩ d).setCell ⟨q,4,none⟩ e
theorem DT{w0 w:World}{q:Nat}(hx:Ex w0 w)(hq:w0.heap.size<=q)(a b c d e:Value):Ex w0 (set5 w q a b c d e):=
 ((((hx.setCell (p:=⟨q,0,none⟩) hq _).setCell (p:=⟨q,1,none⟩) hq _).setCell (p:=⟨q,2,none⟩) hq _).setCell (p:=⟨q,3,none⟩) hq _).setCell (p:=⟨q,4,none⟩) hq _
theorem Ke{w:World}{q:Nat}{v:Value}{l:List Int}(h:Aj w v l)(hq:∀B,v.ownBlock=some B->B≠q)(a b c d e:Value):Aj (set5 w q a b c d e) v l:=
 Sl.other (Sl.other (Sl.other (Sl.other (Sl.other h (fun B e=>hq B e) _) (fun B e=>hq B e) _) (fun B e=>hq B e) _) (fun B e=>hq B e) _) (fun B e=>hq B e) _
def OfR(p m:Int)(ml:List Int)(aA:Int)(v:Value)(e:Int)(r:Ending)(w':World)(base:Nat):Prop:=
 (e≠0/\r= .returned (.tuple #[.agg #[.int .i64 0,.int .i64 0,.slice none 0 0,.int .i64 0,.slice none 0 0],.int .i64 e]))∨
 (e=0/\∃v',r= .returned (.tuple #[.agg #[.int .i64 p,.int .i64 m,v',.int .i64 aA,v],.int .i64 0])/\Aj w' v' ml/\∀B,v'.ownBlock=some B->base<=B)
theorem Lf(w:World)(p m:Int)(ml:List Int)(mv:Value)(aG:Aj w mv ml)(hn:ml.length<=1000)(aA:Int)(rows:List (List Int))(v:Value)(hv:BY w v rows)(e:Int):
  Calls Tryz.prog 105 #[.agg #[.int .i64 p,.int .i64 m,mv],.agg #[.int .i64 aA,v],.int .i64 e] w fun r w'=>OfR p m ml aA v e r w' w.heap.size/\Ex w w':=by
 obtain⟨g0,g1,g2,e0,aC⟩:=Az w p m mv;have aV:=Aa (fun (w':World) (h:Ex w w')=>Yt w' p m ml mv (aG.ex h) hn);obtain⟨za,zc,rfl,-,z2,-⟩:=hv.open;unfold maxLen at z2;obtain⟨ma,mc,rfl,-,m2,-⟩:=aG.open;unfold maxLen at m2;obtain⟨xb,aD⟩:=nA w.heap.size;rw[aD]at g0 g1 g2 aC;clear aG hv hn;go_enter Tryz.func105,Tryz.ntmps105
 by_cases h1:e=0
 .subst h1;go_wp2_with fail
  generalize w.alloc (.cells #[.int .i64 p,.int .i64 m,.slice ma ml.length mc] 24)=wA at *;obtain⟨a0,a1,ea⟩:=Dq wA aA (.slice za rows.length zc);have aE:(wA.alloc (.cells #[.int .i64 aA,.slice za rows.length zc] 137)).heap.size=xb+1+1:=by simp[aC]
  rw[aC]at a0 a1;generalize wA.alloc (.cells #[.int .i64 aA,.slice za rows.length zc] 137)=wB at *;have bq:=ZI.new wB;rw[aE]at bq;have eb:Ex wB _:=(Ex.refl wB).alloc (.cells #[.int .i64 0,.int .i64 0,.slice none 0 0,.int .i64 0,.slice none 0 0] 39);obtain⟨A0,A1,G0,G1,G2,EB,aU,BQ,HE⟩:=Ty a0 a1 (ea.cell g0) (ea.cell g1) (ea.cell g2) eb (show wB.heap.size<=xb+1+1 from Nat.le_of_eq aE) bq ((e0.trans ea).trans eb);have aK:(wB.alloc (.cells #[.int .i64 0,.int .i64 0,.slice none 0 0,.int .i64 0,.slice none 0 0] 39)).heap.size=xb+1+1+1:=by simp[aE]
  generalize wB.alloc (.cells #[.int .i64 0,.int .i64 0,.slice none 0 0,.int .i64 0,.slice none 0 0] 39)=wC at *;clear g0 g1 g2 a0 a1 bq e0 ea eb aE aC;have aS:=Aa aD;have aW:=Aa aK;clear aD aK;have X0:Ex wC wC.drew:=(Ex.refl wC).drew;have aB:=Aa (fun (w':World) (h':Ex wB w')=>(⟨h'.cell G0.o,h'.cell G1.o,h'.cell G2.o,h'.cell A0.o,h'.cell A1.o⟩:w'.cell? ⟨xb,0,none⟩=some (.int .i64 p)/\w'.cell? ⟨xb,1,none⟩=some (.int .i64 m)/\w'.cell? ⟨xb,2,none⟩=some (.slice ma ml.length mc)/\w'.cell? ⟨xb+1,0,none⟩=some (.int .i64 aA)/\w'.cell? ⟨xb+1,1,none⟩=some (.slice za rows.length zc)));have aH:=Aa (fun (w':World) (h':Ex wB w') (a b c d e:Value)=>aB.o _ (DT h' aU.o a b c d e));have Y0:=Aa (EB.o.trans X0)
  go_region_held3 (fun w'=>w'.cell? ⟨xb,0,none⟩=some (.int .i64 p)/\w'.cell? ⟨xb,1,none⟩=some (.int .i64 m)/\w'.cell? ⟨xb,2,none⟩=some (.slice ma ml.length mc)/\w'.cell? ⟨xb+1,0,none⟩=some (.int .i64 aA)/\w'.cell? ⟨xb+1,1,none⟩=some (.slice za rows.length zc))
   (first|with_reducible exact aB.o _ Y5.o|with_reducible exact aH.o _ Y5.o _ _ _ _ _|with_reducible exact aB.o _ Y0.o)
   (first|(go_at_call 159;(with_reducible refine(aV.o _ (HE.o.trans X0)).mono ?_);rintro e w5⟨v',rfl,aF,aI,h5⟩;have X5:=X0.trans h5;have Y5:=Aa (EB.o.trans X5);obtain⟨q0,q1,q2,q3,q4,aQ,aP,aO,aN,aM⟩:=BQ.o.ex X5;have aT:=Aa aF;have aL:=Aa aI;obtain⟨va,vc,rfl,-,-,-⟩:=aF.open;clear h5 aF aI))
  all_goals
   go_wp2_with fail
   have hsz:wC.drew.heap.size=xb+1+1+1:=aW.o;have hwx:=aS.o;exact bodyPost_ret (v:= .tuple #[.agg #[.int .i64 p,.int .i64 m,.slice va ml.length vc,.int .i64 aA,.slice za rows.length zc],.int .i64 0]) (by simp[results,Tryz.results105,go_sem,q0,q1,q2,q3,q4]) rfl ⟨.inr ⟨rfl,_,rfl,Ke aT.o (fun B h=>by have:=aL.o B h;omega) _ _ _ _ _,fun B h=>by have:=aL.o B h;omega⟩,DT (HE.o.trans X5) ac _ _ _ _ _⟩
 .have hb:(e !=0)=true:=by simpa using h1
  have HH:=Aa h1;have aJ:=Dq (w.alloc (.cells #[.int .i64 p,.int .i64 m,.slice ma ml.length mc] 24)) aA (.slice za rows.length zc);have aR:((w.alloc (.cells #[.int .i64 p,.int .i64 m,.slice ma ml.length mc] 24)).alloc (.cells #[.int .i64 aA,.slice za rows.length zc] 137)).heap.size=xb+1+1:=by simp[aC]
  have bq:=ZI.new ((w.alloc (.cells #[.int .i64 p,.int .i64 m,.slice ma ml.length mc] 24)).alloc (.cells #[.int .i64 aA,.slice za rows.length zc] 137));have HE:=Aa ((e0.trans aJ.2.2).alloc (.cells #[.int .i64 0,.int .i64 0,.slice none 0 0,.int .i64 0,.slice none 0 0] 39));rw[aR]at bq;obtain⟨q0,q1,q2,q3,q4,aQ,aP,aO,aN,aM⟩:=bq;clear h1 aJ g0 g1 g2 e0;go_wp2_with fail
  exact bodyPost_ret (v:= .tuple #[.agg #[.int .i64 0,.int .i64 0,.slice none 0 0,.int .i64 0,.slice none 0 0],.int .i64 e]) (by simp[results,Tryz.results105,go_sem,q0,q1,q2,q3,q4,aD]) rfl ⟨.inl ⟨HH.o,rfl⟩,by first|exact HE.o|exact DT HE.o ac _ _ _ _ _⟩
def KB(p m:Int)(ml:List Int)(aA:Int)(rows:List (List Int)):Int:=if DE p m ml aA rows≠0 then DE p m ml aA rows else EN aA
def Z6(p m:Int)(ml:List Int)(aA:Int)(rows:List (List Int))(b0:Nat)(r:Ending)(w':World):Prop:=
 (KB p m ml aA rows≠0/\r= .returned (.tuple #[.agg #[.int .i64 0,.int .i64 0,.slice none 0 0,.int .i64 0,.slice none 0 0],.int .i64 (KB p m ml aA rows)]))∨
 (KB p m ml aA rows=0/\∃(pn mn N:Nat) (piv:List Nat) (a':Nat->Nat->Int) (rv v':Value),p=pn/\m=mn/\aA=N/\FX p m ml/\BV (pn^mn) N rows=0/\r= .returned (.tuple #[.agg #[.int .i64 p,.int .i64 m,v',.int .i64 N,rv],.int .i64 0])/\Hs pn mn ml N rows.length (Ao rows) a' piv/\Aj w' v' ml/\BY w' rv (Aw N piv.length a')/\(∀B,v'.ownBlock=some B->b0<=B)/\∃g blk cap base,b0<=base/\rv= .slice (some ⟨g,0,none⟩) piv.length piv.length/\EM w' base g rows.length N blk cap a' []/\piv.length<=rows.length/\rows.length<=256)
theorem cz{P:Prop}(h:P:=by simp[results,Tryz.results93,go_sem,q0,q1,q2,q3,q4]):P:=h
theorem P9(w:World)(p m:Int)(ml:List Int)(mv:Value)(aG:Aj w mv ml)(hn:ml.length<=1000)(aA:Int)(rows:List (List Int))(v:Value)(hv:BY w v rows)(h0:DE p m ml aA rows=0->1<=aA):
  Calls Tryz.prog 93 #[.agg #[.int .i64 p,.int .i64 m,mv],.agg #[.int .i64 aA,v]] w fun r w'=>Z6 p m ml aA rows w.heap.size r w'/\Ex w w':=by
 obtain⟨g0,g1,g2,e0,aH⟩:=Az w p m mv;have aY:=Aa (fun (w':World) (h:Ex w w')=>Hb w' p m ml mv (aG.ex h) aA rows v (hv.ex h) h0);have aV:=Aa aG;obtain⟨za,zc,rfl,-,z2,-⟩:=hv.open;unfold maxLen at z2;obtain⟨ma,mc,rfl,-,m2,-⟩:=aG.open;unfold maxLen at m2;obtain⟨xb,aL⟩:=nA w.heap.size;rw[aL]at g0 g1 g2 aH;clear aG hv h0;go_enter Tryz.func93,Tryz.ntmps93
 go_wp2_with fail
 generalize w.alloc (.cells #[.int .i64 p,.int .i64 m,.slice ma ml.length mc] 24)=wA at *;obtain⟨a0,a1,ea⟩:=Dq wA aA (.slice za rows.length zc);have aM:(wA.alloc (.cells #[.int .i64 aA,.slice za rows.length zc] 137)).heap.size=xb+1+1:=by simp[aH]
 rw[aH]at a0 a1;generalize wA.alloc (.cells #[.int .i64 aA,.slice za rows.length zc] 137)=wB at *;have bq:=ZI.new wB;rw[aM]at bq;have eb:Ex wB _:=(Ex.refl wB).alloc (.cells #[.int .i64 0,.int .i64 0,.slice none 0 0,.int .i64 0,.slice none 0 0] 39);obtain⟨A0,G0,G1,G2,BQ,HE⟩:=To (eb.cell a0) ((ea.trans eb).cell g0) ((ea.trans eb).cell g1) ((ea.trans eb).cell g2) bq ((e0.trans ea).trans eb);have aT:(wB.alloc (.cells #[.int .i64 0,.int .i64 0,.slice none 0 0,.int .i64 0,.slice none 0 0] 39)).heap.size=xb+1+1+1:=by simp[aM]
 generalize wB.alloc (.cells #[.int .i64 0,.int .i64 0,.slice none 0 0,.int .i64 0,.slice none 0 0] 39)=wC at *;have aP:=Aa aT;have aU:=Aa aL;refine(aY.o wC HE.o).mono ?_;clear g0 g1 g2 a0 a1 bq e0 ea eb aM aH aT aL;rintro e w2⟨hc,aD⟩;obtain⟨aI,aZ,bA,A0,G0,G1,G2⟩:=OK (HE.o.trans aD) aD (BQ.o.ex aD) (aD.cell A0.o) (aD.cell G0.o) (aD.cell G1.o) (aD.cell G2.o);clear aD BQ HE aY;rcases hc with⟨hce,pn,mn,N,piv,a',rv,pv,rfl,rfl,rfl,hfb,hmk,rfl,hel,hrv,hpv,g,blk,cap,base,hbase,rfl,hem⟩|⟨hce,rfl⟩
 .have aF:KB pn mn ml N rows=EN N:=by unfold KB;rw[if_neg (by simp[hce])]
  have HN:=Aa aF;have aW:=Aa (fun (w':World)=>KM w' (N:Int));obtain⟨L,hL⟩:=nA (EN N);rw[hL]at HN aW;have aS:=(P0 hel).1;have aR:=(Ev hmk).2.2.1;obtain⟨bI,aJ,aE,aN⟩:=Eq hem (show piv.length<=rows.length/\rows.length<=256 from⟨aS,aR⟩) (show xb+1+1<base from by have:=aP.o;omega) (show FX pn mn ml/\BV (pn^mn) N rows=0/\Hs pn mn ml N rows.length (Ao rows) a' piv from⟨hfb,hmk,hel⟩);obtain⟨pa,pc,rfl,-,-,-⟩:=hpv.open;have aB:=Aa ((Ex.refl w2).alloc (.cells #[.int .i64 N,.slice (some ⟨g,0,none⟩) piv.length piv.length] 137));have aO:=Aa (Lf _ pn mn ml _ (aV.o.ex (aI.o.trans aB.o)) hn N (Aw N piv.length a') _ (hrv.ex aB.o) L);have g0:=aB.o.cell G0.o;have g1:=aB.o.cell G1.o;have g2:=aB.o.cell G2.o;have a0:=aB.o.cell A0.o;have aQ:=Aa (bA.o.ex aB.o);clear aF hL hce hfb hmk hel hrv hpv hbase hem aS aR;go_wp2_with fail
  refine(aW.o _).mono ?_;rintro e w3⟨rfl,bG⟩;subst bG;go_wp2_with fail
  refine aO.o.mono ?_;rintro e w4⟨ho,aC⟩;have X4:=Aa ((aI.o.trans aB.o).trans aC);have bK:=Aa (bI.o.ex (aB.o.trans aC));have hw:=aU.o;obtain⟨q0,q1,q2,q3,q4,bF,bE,bD,bC,bB⟩:=aQ.o.ex aC;clear aC g0 g1 g2 a0;rcases ho with⟨hz,rfl⟩|⟨hz,v',rfl,hv',hb'⟩
  .have aK:=Aa hz;clear hz;go_wp2_with fail
   exact bodyPost_ret (v:= .tuple #[.agg #[.int .i64 0,.int .i64 0,.slice none 0 0,.int .i64 0,.slice none 0 0],.int .i64 L]) cz rfl ⟨.inl ⟨by rw[HN.o];exact aK.o,by rw[HN.o]⟩,DT X4.o ac _ _ _ _ _⟩
  .subst hz;have HV:=Aa hv';have HB:=Aa (show ∀B,v'.ownBlock=some B->B≠xb+1+1 from fun B h=>by
    have h1:=hb' B h;have h2:=aZ.o.size;have h3:=aP.o;simp at h1;omega)
   have bJ:=Aa (show ∀B,v'.ownBlock=some B->w.heap.size<=B from fun B h=>by
    have h1:=hb' B h;have h2:=aZ.o.size;have h3:=aP.o;simp at h1;omega)
   obtain⟨va,vc,rfl,-,-,-⟩:=hv'.open;clear hv' hb';have aX:=Aa ((((((bK.o.low (A:=⟨xb+1+1,0,none⟩) aE.o (.int .i64 pn)).low (A:=⟨xb+1+1,1,none⟩) aE.o (.int .i64 mn)).low (A:=⟨xb+1+1,2,none⟩) aE.o (.slice va ml.length vc)).low (A:=⟨xb+1+1,3,none⟩) aE.o (.int .i64 N)).low (A:=⟨xb+1+1,4,none⟩) aE.o (.slice (some ⟨g,0,none⟩) piv.length piv.length)));have bH:=Aa (aX.o.msl aJ.o.1 aJ.o.2);go_wp2_with fail
   exact bodyPost_ret (v:= .tuple #[.agg #[.int .i64 pn,.int .i64 mn,.slice va ml.length vc,.int .i64 N,.slice (some ⟨g,0,none⟩) piv.length piv.length],.int .i64 0]) cz rfl ⟨.inr ⟨HN.o,pn,mn,N,piv,a',_,_,rfl,rfl,rfl,aN.o.1,aN.o.2.1,rfl,aN.o.2.2,Ke HV.o HB.o _ _ _ _ _,bH.o,bJ.o,g,blk,cap,base,by have:=aE.o;omega,rfl,aX.o,aJ.o.1,aJ.o.2⟩,DT X4.o ac _ _ _ _ _⟩
 .have aF:KB p m ml aA rows=DE p m ml aA rows:=by unfold KB;rw[if_pos hce]
  have HN:=Aa aF;obtain⟨E,hE⟩:=nA (DE p m ml aA rows);rw[hE]at HN hce ⊢;have hb:(E==0)=false:=by simpa using hce
  have aK:=Aa hce;have aB:=Aa ((Ex.refl w2).alloc (.cells #[.int .i64 0,.slice none 0 0] 137));have aO:=Aa (Lf _ p m ml _ (aV.o.ex (aI.o.trans aB.o)) hn 0 [] (.slice none 0 0) ⟨[],Sl.nil _ 1,fun i r u h=>by simp at h⟩ E);have g0:=aB.o.cell G0.o;have g1:=aB.o.cell G1.o;have g2:=aB.o.cell G2.o;have aQ:=Aa (bA.o.ex aB.o);clear aF hE hce;go_wp2_with fail
  refine aO.o.mono ?_;rintro e w4⟨ho,aC⟩;rcases ho with⟨_,rfl⟩|⟨h,_⟩
  .obtain⟨q0,q1,q2,q3,q4,bF,bE,bD,bC,bB⟩:=aQ.o.ex aC;have X4:=Aa ((aI.o.trans aB.o).trans aC);have hw:=aU.o;clear aC g0 g1 g2;go_wp2_with fail
   exact bodyPost_ret (v:= .tuple #[.agg #[.int .i64 0,.int .i64 0,.slice none 0 0,.int .i64 0,.slice none 0 0],.int .i64 E]) cz rfl ⟨.inl ⟨by rw[HN.o];exact aK.o,by rw[HN.o]⟩,DT X4.o ac _ _ _ _ _⟩
  .exact absurd h aK.o
section
variable (p m:Nat) (ml:List Int)
def Km(x:Int)(u r:Nat->Int)(j:Nat):Int:=if r j=0 then u j else((AG p m (Au (p^m) (u j)) (CE p m (Ak p m (lw ml) (Au (p^m) x) (Au (p^m) (r j)))):Nat):Int)
def Gh(x:Int)(u r:Nat->Int)(c j:Nat):Int:=if j<c then Km p m ml x u r j else u j
def LO(u:Nat->Int)(pl:Nat)(r:Nat->Int):Nat->Int:=if u pl=0 then u else Km p m ml (u pl) u r
def Nt(a:Nat->Nat->Int)(pl:Nat->Nat)(v:Nat->Int):Nat->Nat->Int
 | 0=>v
 | k+1=>LO p m ml (Nt a pl v k) (pl k) (a k)
def LR(t:Nat)(v:Nat->Int):Int:=Cu (fun j=>v j !=0) t
def ivz(z:Nat):Nat:=if z=0 then 0 else D7 p m ml z
structure LB where
 n:Nat
 a:Nat->Nat->Int
 pl:Nat->Nat
def LB.red(e:LB)(v:Nat->Int):Nat->Int:=Nt p m ml e.a e.pl v e.n
def Gf(t:Nat)(e:LB)(r:Nat->Int):LB:=
 if 0<=LR t (e.red p m ml r) then⟨e.n+1,Ay e.a e.n (BK p m ml (ivz p m ml (Au (p^m) (e.red p m ml r (LR t (e.red p m ml r)).toNat))) (e.red p m ml r)),Ay e.pl e.n (LR t (e.red p m ml r)).toNat⟩ else e
def GZ(t:Nat)(rows:Nat->Nat->Int):Nat->LB
 | 0=>⟨0,fun _ _=>0,fun _=>0⟩
 | k+1=>Gf p m ml t (GZ t rows k) (rows k)
def IZ(t:Nat)(e:LB)(rows:Nat->Nat->Int)(n:Nat):Int:=Cu (fun i=>decide (0<=LR t (e.red p m ml (rows i)))) n
def F5(sc:List Int)(x:Nat->Int)(i:Nat):Int:=((Ak p m (lw ml) (Au (p^m) (sc.getD i 0)) (Au (p^m) (x i)):Nat):Int)
def IL(tl:List Int)(y:Nat->Int)(i:Nat):Int:=y (tl.getD i 0).toNat
def EZ(l1 l2:List (List Int))(tl sc:List Int):Int × Int:=
 let i:=IZ p m ml tl.length (GZ p m ml tl.length (fun i=>IL tl (Ao l2 i)) l2.length) (fun i=>F5 p m ml sc (Ao l1 i)) l1.length
 if 0<=i then(0,i) else
 let k:=IZ p m ml tl.length (GZ p m ml tl.length (fun i=>F5 p m ml sc (Ao l1 i)) l1.length) (fun i=>IL tl (Ao l2 i)) l2.length
 if 0<=k then(1,k) else(-1,-1)
end
def R8(i n:Nat):List Int:=il n (Ay (fun _=>0) i 1)
def JD(R1 R2:Nat)(s:Int × Int):List Int:=if s.1=0 then R8 s.2.toNat R1 else if s.1=1 then R8 s.2.toNat R2 else []
theorem Gt{N j:Nat}(h:j<N)(f:Nat->Int):(il N f).getD j 0=f j:=by
 exact zdk
theorem N5(pr:Nat->Bool)(n:Nat):Cu pr n<n/\-1<=Cu pr n:=by
 unfold Cu;split
 .rename_i i h;have:=List.mem_range.1 (List.mem_of_find?_eq_some h);omega
 .omega
theorem VS(t:Nat)(v:Nat->Int):LR t v<t/\-1<=LR t v:=N5 _ _
section
variable {p m:Nat} {ml:List Int}
theorem XY{t:Nat}{e:LB}{r:Nat->Int}(h:∀i,i<e.n->e.pl i<t):∀i,i<(Gf p m ml t e r).n->(Gf p m ml t e r).pl i<t:=by
 have hz:=VS t (e.red p m ml r);unfold Gf;split
 .intro i hi;simp only at hi ⊢;by_cases e1:i=e.n
  .subst e1;rw[Ab];omega
  .rw[Ad _ _ e1];exact h i ac
 .exact h
theorem J8(t:Nat)(rows:Nat->Nat->Int):∀k i,i<(GZ p m ml t rows k).n->(GZ p m ml t rows k).pl i<t
 | 0=>fun i hi=>by simp only[GZ]at hi;omega
 | k+1=>XY (J8 t rows k)
theorem spnS_n{t:Nat}{e:LB}{r:Nat->Int}:(Gf p m ml t e r).n<=e.n+1:=by
 unfold Gf;split
 .simp
 .omega
theorem ZN(t:Nat)(rows:Nat->Nat->Int):∀k,(GZ p m ml t rows k).n<=k
 | 0=>by simp[GZ]
 | k+1=>by
  have:=ZN t rows k;have:=spnS_n (p:=p) (m:=m) (ml:=ml) (t:=t) (e:=GZ p m ml t rows k) (r:=rows k);show(Gf p m ml t _ _).n<=_
  omega
end
structure Nd where
 tl:List Int
 sc:List Int
 side:Int
 msg:List Int
def F9{σ:Type}(step:σ->List Int->List Int->σ × Int)(tl sc:List Int)(j:Nat):Nat->σ->σ × Int
 | 0,s=>(s,0)
 | c+1,s=>if (F9 step tl sc j c s).2≠0 then F9 step tl sc j c s else step (F9 step tl sc j c s).1 (tl ++ [(j:Int)]) (sc ++ [((c+1:Nat):Int)])
def Ef{σ:Type}(step:σ->List Int->List Int->σ × Int)(q:Nat)(tl sc:List Int):Nat->σ->σ × Int
 | 0,s=>(s,0)
 | j+1,s=>if (Ef step q tl sc j s).2≠0 then Ef step q tl sc j s else if tl.contains (j:Int) then Ef step q tl sc j s else F9 step tl sc j (q-1) (Ef step q tl sc j s).1
def LF(p m:Nat)(ml:List Int)(l1 l2:List (List Int))(n:Nat):Nat->Nat × List Nd->List Int->List Int->(Nat × List Nd) × Int
 | d,s,tl,sc=>
  if s.1=65536 then(s,8) else
  let w:=EZ p m ml l1 l2 tl sc
  let s1:=(s.1+1,s.2 ++ [⟨tl,sc,w.1,JD l1.length l2.length w⟩])
  if 0<=w.1 then(s1,0) else if tl.length=n then(s1,18) else
  match d with
  | 0=>(s1,0)
  | d+1=>Ef (LF p m ml l1 l2 n d) (p^m) tl sc n s1
def Fw(f:Nat->Int)(i j:Nat):Int:=if j<i then f j else 0
theorem MO(f:Nat->Int):Fw f 0=fun _=>0:=by funext j;unfold Fw;rw[if_neg ac]
theorem MP(f:Nat->Int)(i:Nat):Ay (Fw f i) i (f i)=Fw f (i+1):=by
 funext j;by_cases e:j=i
 .subst e;rw[Ab];unfold Fw;rw[if_pos ac]
 .rw[Ad _ _ e];unfold Fw;by_cases h:j<i
  .exact za6
  .exact za7
theorem PT{f:Nat->Int}{n j:Nat}(h:j<n):Fw f n j=f j:=by unfold Fw;rw[if_pos h]
theorem AS(w:World)(u v:Value):(w.alloc (.cells #[u,v] 71)).cell? ⟨w.heap.size,0,none⟩=some u/\(w.alloc (.cells #[u,v] 71)).cell? ⟨w.heap.size,1,none⟩=some v/\Ex w (w.alloc (.cells #[u,v] 71))/\(w.alloc (.cells #[u,v] 71)).heap.size=w.heap.size+1:=
 ⟨ag,ag,(Ex.refl w).alloc _,ag⟩
section
variable {b p m x0:Nat} {ml:List Int}
theorem KJ(w:World)(hg:Bf w b p m ml x0)(A:Nat)(hA:w.cell? ⟨A,0,none⟩=some (.pointer (some ⟨b,0,none⟩)))(N:Nat)(hN:N<=1000)(tl sl x:List Int)(tv sv xv:Value)(ht:Aj w tv tl)(hs:Aj w sv sl)(hx:Aj w xv x)(aP:tl.length=N)(aK:sl.length=N)(hxl:N<=x.length):
  Calls Tryz.prog 228 #[.pointer (some ⟨A,0,none⟩),.agg #[tv,sv],xv] w fun r w'=>∃g,r= .returned (.slice (some ⟨g,0,none⟩) N N)/\AE w' w.heap.size 3 g N (iv (F5 p m ml sl fun j=>x.getD j 0))/\Ex w w':=by
 obtain⟨b0,b1,eb,aD⟩:=AS w tv sv;have aZ:=Aa (fun (w1:World) (h1:Ex w w1) (y z:Int)=>EY w1 (hg.ex h1) y z);obtain⟨ta,tc,rfl,_,t2,_⟩:=ht.open;obtain⟨sa,sc,rfl,_,s2,s3⟩:=hs.open;obtain⟨xa,xc,rfl,_,x2,x3⟩:=hx.open;unfold maxLen at t2 s2 x2;rw[aK]at s3;rw[aP,aK]at b0 b1 eb aD ⊢;obtain⟨S3,X3,bC,bB,aB,HA⟩:=To s3 x3 (fun i (hi:i<N)=>AQ (l:=sl) (i:=i) ac) (fun i (hi:i<N)=>AQ (l:=x) (i:=i) ac) eb hA;obtain⟨F,hF⟩:∃F,(F5 p m ml sl fun j=>x.getD j 0)=F:=⟨_,rfl⟩;have bD:=Aa (fun i=>congrFun hF i);rw[hF];clear hg ht hs hx s3 x3 eb aP aK hA hF;go_enter Tryz.func228,Tryz.ntmps228
 go_wp2_with (at_make;refine Ar _ rfl _ _ 22 rfl 3 (.int .i64 0) 8 Tryz.underlying22 AA rfl _ N rfl rfl rfl ac ai ?_)
 obtain⟨B,hB⟩:=nA w.heap.size;rw[hB]at b0 b1 aD
 try simp only[hB]
 have bF:=Aa hB;clear hB;generalize w.alloc (.cells #[.slice ta N tc,.slice sa N sc] 71)=w1 at *;intro w3 aA aJ;have B0:=Aa b0;have B1:=Aa b1;obtain⟨g,aE⟩:=nA (B+1);have aS:=Aa (show AE w3 g 3 g N (iv (Fw F 0)) from by rw[<-aE,MO];exact aA)
 try simp only[aE]
 have aX:=Aa aJ;have aU:=Aa (show w1.heap.size=g from by rw[<-aE,<-aD]);have aW:=aJ.cell b1;clear aA aJ b0 b1 aE aD;go_wp2_with fail
 go_loopw [17] (fun i' wr=>∃(i:Nat),i<=N/\i'= .int .i64 i/\Hia (AE wr g 3 g N (iv (Fw F i)))/\Hia (Ex w1 wr)) (fun i' _=>N-(intOf i').toNat)
 case atStart=>exact⟨0,ac,rfl,aS,aX⟩
 case round=>
  clear aS aW;obtain⟨i,hi,rfl,aA,aF⟩:=hrel;by_cases hin:i<N
  .obtain⟨sb,so,rfl,aQ⟩:=S3.o ac;obtain⟨xb,xo,rfl,aO⟩:=X3.o ac;have aI:=Aa (aB.o.trans aF.o);obtain⟨s,hs⟩:=nA (sl.getD i 0);have aM:=bC.o i hin;rw[hs]at aM;have cs:=aI.o.cell (aQ i _ aM);obtain⟨z,hz⟩:=nA (x.getD i 0);have aL:=bB.o i hin;rw[hz]at aL;have aV:=Aa (aO i _ aL);have i1:(0:Int)<=(i:Int):=by omega
   have i2:(i:Int)<(N:Int):=ac;have i3:(i:Int)<(x.length:Int):=ac;have aT:=Aa (fun (w5:World) (h5:Ex wr w5)=>aZ.o w5 (aI.o.trans h5) s z);obtain⟨u,hu⟩:=nA (Ak p m (lw ml) (Au (p^m) s) (Au (p^m) z));rw[hu]at aT;have aY:=Aa (show Ay (Fw F i) i (u:Int)=Fw F (i+1) from by
    rw[<-MP,<-bD.o i];show _=Ay (Fw F i) i ((Ak p m (lw ml) (Au (p^m) (sl.getD i 0)) (Au (p^m) (x.getD i 0)):Nat):Int)
    rw[hs,hz,hu])
   have aH:=Aa aA.o;have bE:=Aa aF.o;have aG:=Aa (fun (w5:World) (h5:Ex wr w5)=>(aH.o.ex h5).exSet (a:=w1) (Nat.le_of_eq aU.o) (bE.o.trans h5) i (.int .i64 (u:Int)));have aR:=Aa (fun (w5:World) (h5:Ex wr w5)=>show AE (w5.setCell ⟨g,i,none⟩ (.int .i64 (u:Int))) g 3 g N (iv (Fw F (i+1))) from by
    rw[<-aY.o,<-CA];exact(aH.o.ex h5).set i _)
   have bA:=Aa hin;have aC:=Aa (fun (w5:World) (h5:Ex wr w5)=>(⟨(aI.o.trans h5).cell HA.o,(aI.o.trans h5).cell aV.o⟩:w5.cell? ⟨A,0,none⟩=some (.pointer (some ⟨b,0,none⟩))/\w5.cell? ⟨xb,xo+i,none⟩=some (.int .i64 z)));have aN:=Aa (fun (w5:World) (h5:Ex wr w5)=>(⟨(aB.o.trans (aG.o w5 h5)).cell HA.o,(aB.o.trans (aG.o w5 h5)).cell aV.o⟩:(w5.setCell ⟨g,i,none⟩ (.int .i64 (u:Int))).cell? ⟨A,0,none⟩=some (.pointer (some ⟨b,0,none⟩))/\(w5.setCell ⟨g,i,none⟩ (.int .i64 (u:Int))).cell? ⟨xb,xo+i,none⟩=some (.int .i64 z)));clear hs aM hz aL hu aQ aO aA aF;go_wp2_with fail
   have G0:Ex wr wr.drew:=(Ex.refl wr).drew
   go_region_held3 (fun w'=>w'.cell? ⟨A,0,none⟩=some (.pointer (some ⟨b,0,none⟩))/\w'.cell? ⟨xb,xo+i,none⟩=some (.int .i64 z))
    (first|with_reducible exact aC.o _ G0|with_reducible exact aC.o _ X6|with_reducible exact aN.o _ X6)
    (first|(go_at_call 106;(with_reducible refine(aT.o _ G0).mono ?_);rintro e w6⟨rfl,n6,rfl⟩;have X6:Ex wr (wr.drewN (1+n6)):=(Ex.refl wr).drewN (1+n6);have co6:=(aH.o.ex X6).cell bA.o;have cf6:=(aH.o.ex X6).frz i))
   go_wp2_with fail
   go_roundw
   case rel=>first|exact⟨i+1,ac,by go_num,Aa (aR.o _ X6),Aa (aG.o _ X6)⟩|((repeat apply Exists.intro);exact⟨⟨i+1,ac,by go_num,Aa (aR.o _ X6),Aa (aG.o _ X6)⟩,rfl⟩)
   case measure=>simp[intOf];omega
  .obtain rfl:i=N:=by omega
   go_wp2_with fail
   go_ret;exact⟨g,rfl,(aA.o.mono (by have:=aU.o;have:=bF.o;have:=aB.o.size;omega)).icongr fun j hj=>PT hj,aB.o.trans aF.o⟩
end
theorem Kh(w:World)(A:Nat)(N:Nat)(hN:N<=1000)(tl y:List Int)(tv sv yv:Value)(ht:Aj w tv tl)(hy:Aj w yv y)(aF:tl.length=N)(hr:BB tl y.length=true):
  Calls Tryz.prog 227 #[.pointer (some ⟨A,0,none⟩),.agg #[tv,sv],yv] w fun r w'=>∃g,r= .returned (.slice (some ⟨g,0,none⟩) N N)/\AE w' w.heap.size 3 g N (iv (IL tl fun j=>y.getD j 0))/\Ex w w':=by
 obtain⟨b0,b1,eb,aB⟩:=AS w tv sv;obtain⟨ta,tc,rfl,_,t2,t3⟩:=ht.open;obtain⟨ya,yc,rfl,_,y2,y3⟩:=hy.open;unfold maxLen at t2 y2;rw[aF]at t3;rw[aF]at b0 b1 eb aB ⊢;obtain⟨T3,Y3,aW,aY,aX,aI⟩:=To t3 y3 (fun i (hi:i<N)=>DU hr (i:=i) ac) (fun i (hi:i<N)=>AQ (l:=tl) (i:=i) ac) (fun i (hi:i<y.length)=>AQ (l:=y) (i:=i) hi) eb;obtain⟨F,hF⟩:∃F,(IL tl fun j=>y.getD j 0)=F:=⟨_,rfl⟩;have aZ:=Aa (fun i=>congrFun hF i);rw[hF];clear ht hy t3 y3 eb aF hF hr;go_enter Tryz.func227,Tryz.ntmps227
 go_wp2_with (at_make;refine Ar _ rfl _ _ 22 rfl 3 (.int .i64 0) 8 Tryz.underlying22 AA rfl _ N rfl rfl rfl ac ai ?_)
 obtain⟨B,hB⟩:=nA w.heap.size;rw[hB]at b0 b1 aB
 try simp only[hB]
 have bA:=Aa hB;clear hB;generalize w.alloc (.cells #[.slice ta N tc,sv] 71)=w1 at *;intro w3 aA aE;have B0:=Aa b0;obtain⟨g,aC⟩:=nA (B+1);have aO:=Aa (show AE w3 g 3 g N (iv (Fw F 0)) from by rw[<-aC,MO];exact aA)
 try simp only[aC]
 have aU:=Aa aE;have aP:=Aa (show w1.heap.size=g from by rw[<-aC,<-aB]);have aT:=aE.cell b0;clear aA aE b0 b1 aC aB;go_wp2_with fail
 go_loopw [17] (fun i' wr=>∃(i:Nat),i<=N/\i'= .int .i64 i/\Hia (AE wr g 3 g N (iv (Fw F i)))/\Hia (Ex w1 wr)) (fun i' _=>N-(intOf i').toNat)
 case atStart=>exact⟨0,ac,rfl,aO,aU⟩
 case round=>
  clear aO aT;obtain⟨i,hi,rfl,aA,aD⟩:=hrel;by_cases hin:i<N
  .obtain⟨tb,to_,rfl,aK⟩:=T3.o ac;have aQ:=Aa (aI.o.trans aD.o);have aR:=aW.o i hin;obtain⟨k,hk⟩:=nA ((tl.getD i 0).toNat);have aL:tl.getD i 0=(k:Int):=by omega
   have aS:k<y.length:=ac;obtain⟨yb,yo,rfl,aJ⟩:=Y3.o ac;have aH:=aY.o i hin;rw[aL]at aH;have ct:=aQ.o.cell (aK i _ aH);obtain⟨z,hz⟩:=nA (y.getD k 0);have aG:=aX.o k aS;rw[hz]at aG;have cy:=aQ.o.cell (aJ k _ aG);have i1:(0:Int)<=(i:Int):=br;have i2:(i:Int)<(N:Int):=ac;have i3:(0:Int)<=(k:Int):=ac;have i4:(k:Int)<(y.length:Int):=ac;have aV:=Aa (show Ay (Fw F i) i z=Fw F (i+1) from by
    rw[<-MP,<-aZ.o i];show _=Ay (Fw F i) i (y.getD (tl.getD i 0).toNat 0)
    rw[hk,hz])
   have co:=aA.o.cell hin;have cf:=aA.o.frz i;have aM:=Aa (aA.o.exSet (a:=w1) (Nat.le_of_eq aP.o) aD.o i (.int .i64 z));have aN:=Aa (show AE (wr.setCell ⟨g,i,none⟩ (.int .i64 z)) g 3 g N (iv (Fw F (i+1))) from by
    rw[<-aV.o,<-CA];exact aA.o.set i _)
   clear aR hk aL aH hz aG aK aJ aA aD;go_wp2_with fail
   go_roundw
   case rel=>first|exact⟨i+1,ac,by go_num,aN,aM⟩|((repeat apply Exists.intro);exact⟨⟨i+1,ac,by go_num,aN,aM⟩,rfl⟩)
   case measure=>simp[intOf];omega
  .obtain rfl:i=N:=by omega
   go_wp2_with fail
   go_ret;exact⟨g,rfl,(aA.o.mono (by have:=aP.o;have:=bA.o;have:=aI.o.size;omega)).icongr fun j hj=>PT hj,aI.o.trans aD.o⟩
end Go.Proofs.YtehieobniamagaaGreat
