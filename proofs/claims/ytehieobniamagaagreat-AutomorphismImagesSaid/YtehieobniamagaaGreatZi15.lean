/- Walk of equivalence.Compose. -/
import Derived.Deep.AppendLies
import Derived.Test.YtehieobniamagaaGreatZi14
namespace Go.Proofs.YtehieobniamagaaGreat
open Go.World renaming cell?_setCell_same→φ,ownsRow_nil→ϋ
open List renaming getD_eq_getElem?_getD→δ,getElem?_eq_getElem→γ,all_eq_true→υ,mem_of_getElem?→ι,getElem_of_mem→χ
open Go.RowKit
set_option linter.all false
set_option maxRecDepth 100000
set_option maxHeartbeats 4000000
theorem AC(w:World)(a b:Addr)(u:Value):(w.setCell a u).frozen? b=w.frozen? b:=ag
structure Hm(w1 wr:World)(B:Nat)(bk:Int)(pv sv:Value)(L0 L1:List Int):Prop where
 b0:wr.cell? (B,0)=some pv
 b1:wr.cell? (B,1)=some sv
 b2:wr.cell? (B,2)=some (.int .i64 bk)
 f0:wr.frozen? (B,0)=false
 f1:wr.frozen? (B,1)=false
 o0:wr.ownsRow w1.heap.size 3 1 pv L0.length (Aj L0)
 o1:wr.ownsRow w1.heap.size 3 1 sv L1.length (Aj L1)
 ap:AD pv sv
 n0:∀X,pv.ownBlock=some X->X≠B
 n1:∀X,sv.ownBlock=some X->X≠B
 lb:w1.heap.size<=B
 ex:Ex w1 wr
section
variable {w1 wr w':World} {B:Nat} {bk:Int} {pv sv v':Value} {L0 L1:List Int} {x:Int}
theorem Hm.later(h:Hm w1 wr B bk pv sv L0 L1)(hx:Ex wr w'):Hm w1 w' B bk pv sv L0 L1:=
 ⟨hx.cell h.b0,hx.cell h.b1,hx.cell h.b2,hx.frz h.b0 h.f0,hx.frz h.b1 h.f1,Ag h.o0 hx,Ag h.o1 hx,h.ap,h.n0,h.n1,h.lb,h.ex.trans hx⟩
theorem Hm.no0(h:Hm w1 wr B bk pv sv L0 L1):some B≠pv.ownBlock:=fun e=>h.n0 B e.symm rfl
theorem Hm.no1(h:Hm w1 wr B bk pv sv L0 L1):some B≠sv.ownBlock:=fun e=>h.n1 B e.symm rfl
theorem zbE{P:Prop}(h:P:=by
 have aA:=World.block_lt_of_cell? _ _ hB;rcases ha.at_ with h1|h1
 .rw[h1]at e;exact h X e
 .rw[h1]at e;injection e with e;have:B<wr.heap.size:=aA;omega):P:=h
theorem Hm.blk{b:Nat}{u:Value}{e:TypeId}{n:Nat}{xs news:List Value}(ha:Bz wr w' b e 1 u v' n xs news)(hB:wr.cell? (B,0)=some pv)(h:∀X,u.ownBlock=some X->X≠B):∀X,v'.ownBlock=some X->X≠B:=fun X e=>by
 exact zbE
end
section
variable {w1 wr w':World} {B:Nat} {bk:Int} {pv sv v':Value} {L0 L1:List Int} {x:Int}
theorem Hm.at0g(h:Hm w1 wr B bk pv sv L0 L1)(ha:S0 wr w' w1.heap.size 3 1 pv v' L0.length (Aj L0) [.int .i64 x]):
  w'.cell? (B,0)=some pv/\w'.frozen? (B,0)=false:=⟨ha.cell h.b0 h.no0,ha.frz h.b0 h.f0 h.no0⟩
theorem Hm.at1g(h:Hm w1 wr B bk pv sv L0 L1)(ha:S0 wr w' w1.heap.size 3 1 sv v' L1.length (Aj L1) [.int .i64 x]):
  w'.cell? (B,1)=some sv/\w'.frozen? (B,1)=false:=⟨ha.cell h.b1 h.no1,ha.frz h.b1 h.f1 h.no1⟩
theorem Hm.blkg{b:Nat}{u:Value}{e:TypeId}{n:Nat}{xs news:List Value}(ha:S0 wr w' b e 1 u v' n xs news)(hB:wr.cell? (B,0)=some pv)(h:∀X,u.ownBlock=some X->X≠B):∀X,v'.ownBlock=some X->X≠B:=fun X e=>by
 exact zbE
theorem zb8{P:Prop}(h:P:=by
 rw[List.length_append,show Aj (L0 ++ [x])=Aj L0 ++ [.int .i64 x] from by unfold Aj;simp];exact this):P:=h
theorem Hm.app0g(h:Hm w1 wr B bk pv sv L0 L1)(ha:S0 wr w' w1.heap.size 3 1 pv v' L0.length (Aj L0) [.int .i64 x]):
  Hm w1 (w'.setCell (B,0) v') B bk v' sv (L0 ++ [x]) L1:=by
 have hn:=Hm.blkg ha h.b0 h.n0;have hr:=ha.row h.o1 h.ap.symm;refine⟨φ _ _ _ (ha.cell h.b0 h.no0),?_,?_,?_,?_,?_,?_,hr.2.symm,hn,h.n1,h.lb,(ha.ex h.ex (Nat.le_refl _)).setCell (p:=⟨B,0,none⟩) h.lb _⟩
 .rw[Af ae];exact ha.cell h.b1 h.no0
 .rw[Af ae];exact ha.cell h.b2 h.no0
 .rw[AC];exact ha.frz h.b0 h.f0 h.no0
 .rw[AC];exact ha.frz h.b1 h.f1 h.no0
 .have:=Ae (a:=⟨B,0,none⟩) ha.own (fun e=>hn B e rfl) v';exact zb8
 .exact Ae (a:=⟨B,0,none⟩) hr.1 (fun e=>h.n1 B e rfl) v'
theorem zb9{P:Prop}(h:P:=by
 rw[List.length_append,show Aj (L1 ++ [x])=Aj L1 ++ [.int .i64 x] from by unfold Aj;simp];exact this):P:=h
theorem Hm.app1g(h:Hm w1 wr B bk pv sv L0 L1)(ha:S0 wr w' w1.heap.size 3 1 sv v' L1.length (Aj L1) [.int .i64 x]):
  Hm w1 (w'.setCell (B,1) v') B bk pv v' L0 (L1 ++ [x]):=by
 have hn:=Hm.blkg ha h.b0 h.n1;have hr:=ha.row h.o0 h.ap;refine⟨?_,φ _ _ _ (ha.cell h.b1 h.no1),?_,?_,?_,?_,?_,hr.2,h.n0,hn,h.lb,(ha.ex h.ex (Nat.le_refl _)).setCell (p:=⟨B,1,none⟩) h.lb _⟩
 .rw[Af ae];exact ha.cell h.b0 h.no1
 .rw[Af ae];exact ha.cell h.b2 h.no1
 .rw[AC];exact ha.frz h.b0 h.f0 h.no1
 .rw[AC];exact ha.frz h.b1 h.f1 h.no1
 .exact Ae (a:=⟨B,1,none⟩) hr.1 (fun e=>h.n0 B e rfl) v'
 .have:=Ae (a:=⟨B,1,none⟩) ha.own (fun e=>hn B e rfl) v';exact zb9
end
theorem Hm.new(w1:World)(bk:Int):Hm w1 (w1.alloc (.cells #[(),(),bk] 26)) w1.heap.size bk (.slice none 0 0) (.slice none 0 0) [] []:=
 ⟨ag,ag,ag,ag,ag,ϋ _ _ _ _,ϋ _ _ _ _,AD.nil _,by simp[Value.ownBlock],by simp[Value.ownBlock],Nat.le_refl _,(Ex.refl _).alloc _⟩
def cP(al bl:List Int)(i:Nat):Int:=bl.getD (BJ al i) 0
def cS(p m:Nat)(ml al aB bs:List Int)(aA i:Nat):Int:=
 ((Am p m (lw ml) (Av (p^m) (bs.getD (BJ al i) 0)) (TT p m (lw ml) (Av (p^m) (aB.getD i 0)) aA):Nat):Int)
theorem chk_one{p m:Int}{ml:List Int}(h:¬FD p m ml):Cm p m ml=1:=by
 have h1:Cm p m ml≠0:=fun e=>h ((BU p m ml).1 e);unfold Cm at h1 ⊢;split
 .rename_i h2;rw[if_pos h2]at h1;exact absurd rfl h1
 .rfl
theorem SW(w:World)(p m:Int)(ml:List Int)(mv:Value)(aD:Ak w mv ml):
  Calls Tryz.prog 147 #[.agg #[p,m,mv]] w fun r w'=>r= .returned (.int .i64 (Cm p m ml))/\Ex w w':=by
 obtain⟨a0,a1,a2,ea,-⟩:=AA w p m mv;have HE:=Aa ea;have aE:=Aa (aD.ex ea);have aC:=Aa (fun w' (h:Ak w' mv ml)=>MX p m ml mv w' h);have aA:=I8 p m;obtain⟨R,hR⟩:=nA (Cm p m ml);rw[hR];by_cases hs:Ky p m ml=true
 .obtain⟨pn,mn,rfl,rfl,hf,aH,ho⟩:=NV hs;rw[ho]at aA;rw[hs]at aC;have aJ:=Aa aA;have aK:=Aa (fun w' (h:Ak w' mv ml)=>Hi pn mn ml mv w' hf h);obtain⟨B,hB⟩:∃B:Bool,(B=true↔R=1)/\(B=false↔R=0)/\∀w' v,Pg pn mn ml w' v->∃ga gn gc,v= .slice ga gn gc/\ga.isNone=B:=by
   by_cases hF:Hc pn mn (lw ml)
   .have h0:=(BU _ _ _).2 ⟨pn,mn,rfl,rfl,hf,aH,hF⟩;rw[hR]at h0;subst h0;refine⟨false,ag,ag,fun w' v h=>?_⟩;rcases h with⟨x,x1,x2,hgx,hgv⟩|⟨hno,rfl⟩
    .obtain⟨ga,gc,rfl,g1,g2,g3⟩:=hgv.open;obtain⟨gb,gof,rfl,g4⟩:=g3 (by rw[Ao];have:=BC hf.p2 hf.m1;omega);exact⟨_,_,_,rfl,rfl⟩
    .exact absurd hF hno
   .have h0:Cm pn mn ml=1:=chk_one fun ⟨a,b,e1,e2,_,_,h⟩=>by
     have aO:pn=a:=ac;have aN:mn=b:=ac;subst aO;subst aN;exact hF h
    rw[hR]at h0;subst h0;refine⟨true,ag,ag,fun w' v h=>?_⟩;rcases h with⟨x,x1,x2,hgx,hgv⟩|⟨hno,rfl⟩
    .exact absurd ⟨x,x1,x2,hgx⟩ hF
    .exact⟨_,_,_,rfl,rfl⟩
  have HB:=Aa hB;have hE:=fun w (a:Option Addr) (l c:Nat)=>AS (P:=Tryz.prog) w 22 3 a l c Tryz.underlying22;clear aA hf aH ho hs hB hR aD ea;obtain⟨q,aG⟩:=nA (pn^mn);rw[aG]at aJ aK;clear aG;go_enter Tryz.func147,Tryz.ntmps147
  go_wp2_with fail
  obtain⟨xb,aB⟩:=nA w.heap.size;rw[aB]at a0 a1 a2
  try simp only[aB]
  clear aB;generalize w.alloc (.cells #[pn,mn,mv] 24)=w1 at *;have G0:Ex w1 w1.drew:=(Ex.refl w1).drew;have A0:=Aa a0;have A1:=Aa a1;have A2:=Aa a2
  first|go_region_with ((first
        | (go_at_call 111;(with_reducible refine(aC.o _ (aE.o.ex G0)).mono ?_);rintro e w2⟨rfl,h2⟩;have X2:=G0.trans h2;have b0:=X2.cell A0.o;have b1:=X2.cell A1.o;have b2:=X2.cell A2.o;clear h2)
        | (go_at_call 112;(with_reducible refine(aJ.o _).mono ?_);rintro e w3⟨rfl,rfl⟩)
        | (go_at_call 113;(with_reducible refine(aK.o _ (aE.o.ex X2)).mono ?_);rintro e w3⟨gv,rfl,aI,aF⟩;have X3:=X2.trans aF;obtain⟨ga,gn,gc,rfl,aL⟩:=HB.o.2.2 _ _ aI;have aM:=fun w=>hE w ga gn gc;rw[aL]at aM;clear aI aF)))|fail
  all_goals
   cases B with
   | true=>
    obtain rfl:=HB.o.1.1 rfl;go_wp2_with fail
    go_ret;exact⟨rfl,HE.o.trans X3⟩
   | false=>
    obtain rfl:=HB.o.2.1.1 rfl;go_wp2_with fail
    go_ret;exact⟨rfl,HE.o.trans X3⟩
 .have hs:Ky p m ml=false:=by simpa using hs
  rw[hs]at aC;have hr:=Uj (p:=p) (m:=m) hs;rw[hR]at hr;subst hr;clear hs aA hR aD ea;go_enter Tryz.func147,Tryz.ntmps147
  go_wp2_with fail
  obtain⟨xb,aB⟩:=nA w.heap.size;rw[aB]at a0 a1 a2
  try simp only[aB]
  clear aB;generalize w.alloc (.cells #[p,m,mv] 24)=w1 at *;have G0:Ex w1 w1.drew:=(Ex.refl w1).drew
  first|go_region_with ((go_at_call 111;(with_reducible refine(aC.o _ (aE.o.ex G0)).mono ?_);rintro e w2⟨rfl,h2⟩;have X2:=G0.trans h2;clear h2))|fail
  all_goals
   go_wp2_with fail
   go_ret;exact⟨rfl,HE.o.trans X2⟩
theorem Kt(w:World)(p m:Int)(ml:List Int)(mv:Value)(aB:Ak w mv ml)(aA:Int)(rows:List (List Int))(v:Value)(hv:B6 w v rows)(h0:Dx p m ml aA rows=0->1<=aA):
  Calls Tryz.prog 149 #[.agg #[p,m,mv],.agg #[aA,v]] w fun r w'=>(∃e:Int,r= .returned (.int .i64 e)/\Mu p m ml aA rows e)/\Ex w w':=by
 obtain⟨g0,g1,g2,e0,aD⟩:=AA w p m mv;have aC:=Aa (fun (w':World) (h:Ex w w')=>Mk w' p m ml mv (aB.ex h) aA rows v (hv.ex h) h0);obtain⟨za,zc,rfl,-,z2,-⟩:=hv.open;unfold maxLen at z2;obtain⟨ma,mc,rfl,-,m2,-⟩:=aB.open;unfold maxLen at m2;clear aB hv h0;go_enter Tryz.func149,Tryz.ntmps149
 go_wp2_with fail
 refine(aC.o _ (e0.trans ((Ex.refl _).alloc _))).mono ?_;rintro e w2⟨⟨g,c,a1,a2,n1,k1,n2,k2,e',rfl,hs⟩,hx⟩;have HX:=Aa ((e0.trans ((Ex.refl _).alloc (.cells #[aA,(za,rows.length,zc)] 137))).trans hx);clear hx g0 g1 g2 e0 aD aC;go_wp2_with fail
 go_ret;exact⟨⟨e',rfl,hs⟩,HX.o.alloc _⟩
def Bw(p m:Int)(ml:List Int)(n:Int)(rows:List (List Int))(e:Int):Prop:=
 (Cm p m ml≠0/\e=1)∨(Cm p m ml=0/\Eo n≠0/\e=Eo n)∨(Cm p m ml=0/\Eo n=0/\Mu p m ml n rows e)
theorem D6(w:World)(p m:Int)(ml:List Int)(mv:Value)(aE:Ak w mv ml)(n:Int)(rows:List (List Int))(v:Value)(hv:B6 w v rows):
  Calls Tryz.prog 90 #[.agg #[p,m,mv,n,v]] w fun r w'=>(∃e:Int,r= .returned (.int .i64 e)/\Bw p m ml n rows e)/\Ex w w':=by
 obtain⟨a0,a1,a2,a3,a4,ea⟩:=EJ w p m mv n v;have aH:=Aa (fun (w':World) (h:Ex w w')=>SW w' p m ml mv (aE.ex h));have aM:=Aa (fun (w':World) (h:Ex w w')=>gen_any w' p m mv n rows v (hv.ex h));have aJ:=Aa (fun (h1:Eo n=0) (w':World) (h:Ex w w')=>Kt w' p m ml mv (aE.ex h) n rows v (hv.ex h) fun _=>by
  unfold Eo at h1;split at h1
  .cases h1
  .omega)
 have aK:=Aa (fun (w':World)=>Ld w' n);obtain⟨za,zc,rfl,-,z2,-⟩:=hv.open;unfold maxLen at z2;obtain⟨ma,mc,rfl,-,m2,-⟩:=aE.open;unfold maxLen at m2;have HE:=Aa ea;obtain⟨F,hF⟩:=nA (Cm p m ml);obtain⟨L,hL⟩:=nA (Eo n);have aI:Hia (∀e,((F≠0/\e=1)∨(F=0/\L≠0/\e=L)∨(F=0/\L=0/\Mu p m ml n rows e))->Bw p m ml n rows e):=Aa (fun e h=>by unfold Bw;rw[hF,hL];exact h);rw[hF]at aH;rw[hL]at aJ aK;clear aE hv ea hF hL;go_enter Tryz.func90,Tryz.ntmps90
 go_wp2_with fail
 obtain⟨xb,aF⟩:=nA w.heap.size;rw[aF]at a0 a1 a2 a3 a4
 try simp only[aF]
 clear aF;generalize w.alloc (.cells #[p,m,(ma,ml.length,mc),n,(za,rows.length,zc)] 39)=w1 at *;refine(aH.o w1 HE.o).mono ?_;rintro e w2⟨rfl,aB⟩;obtain⟨A0,A1,A2,A3,A4,aD⟩:=Ty (aB.cell a0) (aB.cell a1) (aB.cell a2) (aB.cell a3) (aB.cell a4) (HE.o.trans aB);clear a0 a1 a2 a3 a4 aB aH HE;by_cases h1:F=0
 .subst h1;have a3:=A3.o;go_wp2_with fail
  refine(aK.o w2).mono ?_;rintro e w3⟨rfl,rfl⟩;by_cases h2:L=0
  .subst h2;have aG:=Aa (aJ.o rfl);have aA:=Aa (fun e h=>aI.o e (.inr (.inr ⟨by trivial,by trivial,h⟩)));go_wp2_with fail
   have aC:=Aa (fun (w':World) (h':Ex w3 w')=>(⟨h'.cell A0.o,h'.cell A1.o,h'.cell A2.o,h'.cell A3.o,h'.cell A4.o⟩:w'.cell? (xb,0)=some (.int .i64 p)/\w'.cell? (xb,1)=some (.int .i64 m)/\w'.cell? (xb,2)=some (.slice ma ml.length mc)/\w'.cell? (xb,3)=some (.int .i64 n)/\w'.cell? (xb,4)=some (.slice za rows.length zc)));have G0:Ex w3 w3.drew:=(Ex.refl w3).drew;clear a3
   go_region_held3 (fun w'=>w'.cell? (xb,0)=some (.int .i64 p)/\w'.cell? (xb,1)=some (.int .i64 m)/\w'.cell? (xb,2)=some (.slice ma ml.length mc)/\w'.cell? (xb,3)=some (.int .i64 n)/\w'.cell? (xb,4)=some (.slice za rows.length zc))
    (first|with_reducible exact aC.o _ X4|with_reducible exact aC.o _ X3|with_reducible exact aC.o _ G0)
    (first|(go_at_call 104;(with_reducible refine(aM.o _ (aD.o.trans G0)).mono ?_);rintro e w5⟨rfl,h3⟩;have X3:=G0.trans h3;clear h3)|(go_at_call 149;(with_reducible refine(aG.o _ (aD.o.trans X3)).mono ?_);rintro e w4⟨⟨e4,rfl,aL⟩,h4⟩;have X4:=X3.trans h4;clear h4))
   go_wp2_with fail
   go_ret;exact⟨⟨_,rfl,aA.o _ aL⟩,aD.o.trans X4⟩
  .have hb:(L !=0)=true:=by simpa using h2
   have aA:=Aa (aI.o L (.inr (.inl ⟨by trivial,h2,rfl⟩)));clear h2 a3;go_wp2_with fail
   go_ret;exact⟨⟨_,rfl,aA.o⟩,aD.o⟩
 .have hb:(F !=0)=true:=by simpa using h1
  have aA:=Aa (aI.o 1 (.inl ⟨h1,rfl⟩));clear h1;go_wp2_with fail
  go_ret;exact⟨⟨_,rfl,aA.o⟩,aD.o⟩
structure BxC(w:World)(b:Nat):Prop where
 c0:w.cell? (b,0)=some (.int .i64 0)
 c1:w.cell? (b,1)=some (.int .i64 0)
 c2:w.cell? (b,2)=some (.slice none 0 0)
 c3:w.cell? (b,3)=some (.int .i64 0)
 c4:w.cell? (b,4)=some (.slice none 0 0)
 f0:w.frozen? (b,0)=false
 f1:w.frozen? (b,1)=false
 f2:w.frozen? (b,2)=false
 f3:w.frozen? (b,3)=false
 f4:w.frozen? (b,4)=false
theorem BxC.new(w:World):BxC (w.alloc (.cells #[Ω,Ω,(),Ω,()] 39)) w.heap.size:=⟨ag,ag,ag,ag,ag,ag,ag,ag,ag,ag⟩
theorem BxC.ex{w w':World}{b:Nat}(h:BxC w b)(hx:Ex w w'):BxC w' b:=⟨hx.cell h.c0,hx.cell h.c1,hx.cell h.c2,hx.cell h.c3,hx.cell h.c4,hx.frz h.c0 h.f0,hx.frz h.c1 h.f1,hx.frz h.c2 h.f2,hx.frz h.c3 h.f3,hx.frz h.c4 h.f4⟩
@[reducible] def set5(w:World)(q:Nat)(a b c d e:Value):World:=((((w.setCell ⟨q,0,none⟩ a).setCell ⟨q,1,none⟩ b).setCell ⟨q,2,none⟩ c).setCell ⟨q,3,none⟩ d).setCell ⟨q,4,none⟩ e
theorem DY{w0 w:World}{q:Nat}(hx:Ex w0 w)(hq:w0.heap.size<=q)(a b c d e:Value):Ex w0 (set5 w q a b c d e):=
 ((((hx.setCell (p:=⟨q,0,none⟩) hq _).setCell (p:=⟨q,1,none⟩) hq _).setCell (p:=⟨q,2,none⟩) hq _).setCell (p:=⟨q,3,none⟩) hq _).setCell (p:=⟨q,4,none⟩) hq _
theorem Kz{w:World}{q:Nat}{v:Value}{l:List Int}(h:Ak w v l)(hq:∀B,v.ownBlock=some B->B≠q)(a b c d e:Value):Ak (set5 w q a b c d e) v l:=
 Sl.other (Sl.other (Sl.other (Sl.other (Sl.other h (fun B e=>hq B e) _) (fun B e=>hq B e) _) (fun B e=>hq B e) _) (fun B e=>hq B e) _) (fun B e=>hq B e) _
def OfR(p m:Int)(ml:List Int)(aA:Int)(v:Value)(e:Int)(r:Ending)(w':World)(base:Nat):Prop:=
 (e≠0/\r= .returned (.tuple #[.agg #[Ω,Ω,(),Ω,()],e]))∨
 (e=0/\∃v',r= .returned (.tuple #[.agg #[p,m,v',aA,v],Ω])/\Ak w' v' ml/\∀B,v'.ownBlock=some B->base<=B)
theorem LO(w:World)(p m:Int)(ml:List Int)(mv:Value)(aG:Ak w mv ml)(hn:ml.length<=1000)(aA:Int)(rows:List (List Int))(v:Value)(hv:B6 w v rows)(e:Int):
  Calls Tryz.prog 105 #[.agg #[p,m,mv],.agg #[aA,v],e] w fun r w'=>OfR p m ml aA v e r w' w.heap.size/\Ex w w':=by
 obtain⟨g0,g1,g2,e0,aC⟩:=AA w p m mv;have aV:=Aa (fun (w':World) (h:Ex w w')=>ZD w' p m ml mv (aG.ex h) hn);obtain⟨za,zc,rfl,-,z2,-⟩:=hv.open;unfold maxLen at z2;obtain⟨ma,mc,rfl,-,m2,-⟩:=aG.open;unfold maxLen at m2;obtain⟨xb,aD⟩:=nA w.heap.size;rw[aD]at g0 g1 g2 aC;clear aG hv hn;go_enter Tryz.func105,Tryz.ntmps105
 by_cases h1:e=0
 .subst h1;go_wp2_with fail
  generalize w.alloc (.cells #[p,m,(ma,ml.length,mc)] 24)=wA at *;obtain⟨a0,a1,ea⟩:=Du wA aA (.slice za rows.length zc);have aE:(wA.alloc (.cells #[aA,(za,rows.length,zc)] 137)).heap.size=xb+1+1:=by simp[aC]
  rw[aC]at a0 a1;generalize wA.alloc (.cells #[aA,(za,rows.length,zc)] 137)=wB at *;have bq:=BxC.new wB;rw[aE]at bq;have eb:Ex wB _:=(Ex.refl wB).alloc (.cells #[Ω,Ω,(),Ω,()] 39);obtain⟨A0,A1,G0,G1,G2,EB,aU,BQ,HE⟩:=Ha0 a0 a1 (ea.cell g0) (ea.cell g1) (ea.cell g2) eb (show wB.heap.size<=xb+1+1 from Nat.le_of_eq aE) bq ((e0.trans ea).trans eb);have aK:(wB.alloc (.cells #[Ω,Ω,(),Ω,()] 39)).heap.size=xb+1+1+1:=by simp[aE]
  generalize wB.alloc (.cells #[Ω,Ω,(),Ω,()] 39)=wC at *;clear g0 g1 g2 a0 a1 bq e0 ea eb aE aC;have aS:=Aa aD;have aW:=Aa aK;clear aD aK;have X0:Ex wC wC.drew:=(Ex.refl wC).drew;have aB:=Aa (fun (w':World) (h':Ex wB w')=>(⟨h'.cell G0.o,h'.cell G1.o,h'.cell G2.o,h'.cell A0.o,h'.cell A1.o⟩:w'.cell? (xb,0)=some (.int .i64 p)/\w'.cell? (xb,1)=some (.int .i64 m)/\w'.cell? (xb,2)=some (.slice ma ml.length mc)/\w'.cell? (xb+1,0)=some (.int .i64 aA)/\w'.cell? (xb+1,1)=some (.slice za rows.length zc)));have aH:=Aa (fun (w':World) (h':Ex wB w') (a b c d e:Value)=>aB.o _ (DY h' aU.o a b c d e));have Y0:=Aa (EB.o.trans X0)
  go_region_held3 (fun w'=>w'.cell? (xb,0)=some (.int .i64 p)/\w'.cell? (xb,1)=some (.int .i64 m)/\w'.cell? (xb,2)=some (.slice ma ml.length mc)/\w'.cell? (xb+1,0)=some (.int .i64 aA)/\w'.cell? (xb+1,1)=some (.slice za rows.length zc))
   (first|with_reducible exact aB.o _ Y5.o|with_reducible exact aH.o _ Y5.o _ _ _ _ _|with_reducible exact aB.o _ Y0.o)
   (first|(go_at_call 159;(with_reducible refine(aV.o _ (HE.o.trans X0)).mono ?_);rintro e w5⟨v',rfl,aF,aI,h5⟩;have X5:=X0.trans h5;have Y5:=Aa (EB.o.trans X5);obtain⟨q0,q1,q2,q3,q4,aQ,aP,aO,aN,aM⟩:=BQ.o.ex X5;have aT:=Aa aF;have aL:=Aa aI;obtain⟨va,vc,rfl,-,-,-⟩:=aF.open;clear h5 aF aI))
  all_goals
   go_wp2_with fail
   have hsz:wC.drew.heap.size=xb+1+1+1:=aW.o;have hwx:=aS.o;exact bodyPost_ret (v:= .tuple #[.agg #[p,m,(va,ml.length,vc),aA,(za,rows.length,zc)],Ω]) (by simp[results,Tryz.results105,go_sem,q0,q1,q2,q3,q4]) rfl ⟨.inr ⟨rfl,_,rfl,Kz aT.o (fun B h=>by have:=aL.o B h;omega) _ _ _ _ _,fun B h=>by have:=aL.o B h;omega⟩,DY (HE.o.trans X5) ac _ _ _ _ _⟩
 .have hb:(e !=0)=true:=by simpa using h1
  have HH:=Aa h1;have aJ:=Du (w.alloc (.cells #[p,m,(ma,ml.length,mc)] 24)) aA (.slice za rows.length zc);have aR:((w.alloc (.cells #[p,m,(ma,ml.length,mc)] 24)).alloc (.cells #[aA,(za,rows.length,zc)] 137)).heap.size=xb+1+1:=by simp[aC]
  have bq:=BxC.new ((w.alloc (.cells #[p,m,(ma,ml.length,mc)] 24)).alloc (.cells #[aA,(za,rows.length,zc)] 137));have HE:=Aa ((e0.trans aJ.2.2).alloc (.cells #[Ω,Ω,(),Ω,()] 39));rw[aR]at bq;obtain⟨q0,q1,q2,q3,q4,aQ,aP,aO,aN,aM⟩:=bq;clear h1 aJ g0 g1 g2 e0;go_wp2_with fail
  exact bodyPost_ret (v:= .tuple #[.agg #[Ω,Ω,(),Ω,()],e]) (by simp[results,Tryz.results105,go_sem,q0,q1,q2,q3,q4,aD]) rfl ⟨.inl ⟨HH.o,rfl⟩,by first|exact HE.o|exact DY HE.o ac _ _ _ _ _⟩
def K6(p m:Int)(ml:List Int)(aA:Int)(rows:List (List Int)):Int:=if Dx p m ml aA rows≠0 then Dx p m ml aA rows else Eo aA
def CNewR(p m:Int)(ml:List Int)(aA:Int)(rows:List (List Int))(b0:Nat)(r:Ending)(w':World):Prop:=
 (K6 p m ml aA rows≠0/\r= .returned (.tuple #[.agg #[Ω,Ω,(),Ω,()],.int .i64 (K6 p m ml aA rows)]))∨
 (K6 p m ml aA rows=0/\∃(pn mn N:Nat) (piv:List Nat) (a':Nat->Nat->Int) (rv v':Value),p=pn/\m=mn/\aA=N/\FD p m ml/\BV (pn^mn) N rows=0/\r= .returned (.tuple #[.agg #[p,m,v',N,rv],Ω])/\Ia pn mn ml N rows.length (An rows) a' piv/\Ak w' v' ml/\B6 w' rv (Au N piv.length a')/\(∀B,v'.ownBlock=some B->b0<=B)/\∃g blk cap base,b0<=base/\rv= .slice (some ⟨g,0,none⟩) piv.length piv.length/\EM w' base g rows.length N blk cap a' []/\piv.length<=rows.length/\rows.length<=256)
theorem db{P:Prop}(h:P:=by simp[results,Tryz.results93,go_sem,q0,q1,q2,q3,q4]):P:=h
theorem QP(w:World)(p m:Int)(ml:List Int)(mv:Value)(aG:Ak w mv ml)(hn:ml.length<=1000)(aA:Int)(rows:List (List Int))(v:Value)(hv:B6 w v rows)(h0:Dx p m ml aA rows=0->1<=aA):
  Calls Tryz.prog 93 #[.agg #[p,m,mv],.agg #[aA,v]] w fun r w'=>CNewR p m ml aA rows w.heap.size r w'/\Ex w w':=by
 obtain⟨g0,g1,g2,e0,aH⟩:=AA w p m mv;have aY:=Aa (fun (w':World) (h:Ex w w')=>Hn w' p m ml mv (aG.ex h) aA rows v (hv.ex h) h0);have aV:=Aa aG;obtain⟨za,zc,rfl,-,z2,-⟩:=hv.open;unfold maxLen at z2;obtain⟨ma,mc,rfl,-,m2,-⟩:=aG.open;unfold maxLen at m2;obtain⟨xb,aL⟩:=nA w.heap.size;rw[aL]at g0 g1 g2 aH;clear aG hv h0;go_enter Tryz.func93,Tryz.ntmps93
 go_wp2_with fail
 generalize w.alloc (.cells #[p,m,(ma,ml.length,mc)] 24)=wA at *;obtain⟨a0,a1,ea⟩:=Du wA aA (.slice za rows.length zc);have aM:(wA.alloc (.cells #[aA,(za,rows.length,zc)] 137)).heap.size=xb+1+1:=by simp[aH]
 rw[aH]at a0 a1;generalize wA.alloc (.cells #[aA,(za,rows.length,zc)] 137)=wB at *;have bq:=BxC.new wB;rw[aM]at bq;have eb:Ex wB _:=(Ex.refl wB).alloc (.cells #[Ω,Ω,(),Ω,()] 39);obtain⟨A0,G0,G1,G2,BQ,HE⟩:=Ty (eb.cell a0) ((ea.trans eb).cell g0) ((ea.trans eb).cell g1) ((ea.trans eb).cell g2) bq ((e0.trans ea).trans eb);have aT:(wB.alloc (.cells #[Ω,Ω,(),Ω,()] 39)).heap.size=xb+1+1+1:=by simp[aM]
 generalize wB.alloc (.cells #[Ω,Ω,(),Ω,()] 39)=wC at *;have aP:=Aa aT;have aU:=Aa aL;refine(aY.o wC HE.o).mono ?_;clear g0 g1 g2 a0 a1 bq e0 ea eb aM aH aT aL;rintro e w2⟨hc,aD⟩;obtain⟨aI,aZ,bA,A0,G0,G1,G2⟩:=To (HE.o.trans aD) aD (BQ.o.ex aD) (aD.cell A0.o) (aD.cell G0.o) (aD.cell G1.o) (aD.cell G2.o);clear aD BQ HE aY;rcases hc with⟨hce,pn,mn,N,piv,a',rv,pv,rfl,rfl,rfl,hfb,hmk,rfl,hel,hrv,hpv,g,blk,cap,base,hbase,rfl,hem⟩|⟨hce,rfl⟩
 .have aF:K6 pn mn ml N rows=Eo N:=by unfold K6;rw[if_neg (by simp[hce])]
  have HN:=Aa aF;have aW:=Aa (fun (w':World)=>Ld w' (N:Int));obtain⟨L,hL⟩:=nA (Eo N);rw[hL]at HN aW;have aS:=(Gy hel).1;have aR:=(ED hmk).2.2.1;obtain⟨bI,aJ,aE,aN⟩:=Of hem (show piv.length<=rows.length/\rows.length<=256 from⟨aS,aR⟩) (show xb+1+1<base from by have:=aP.o;omega) (show FD pn mn ml/\BV (pn^mn) N rows=0/\Ia pn mn ml N rows.length (An rows) a' piv from⟨hfb,hmk,hel⟩);obtain⟨pa,pc,rfl,-,-,-⟩:=hpv.open;have aB:=Aa ((Ex.refl w2).alloc (.cells #[N,.slice (some (g,0)) piv.length piv.length] 137));have aO:=Aa (LO _ pn mn ml _ (aV.o.ex (aI.o.trans aB.o)) hn N (Au N piv.length a') _ (hrv.ex aB.o) L);have g0:=aB.o.cell G0.o;have g1:=aB.o.cell G1.o;have g2:=aB.o.cell G2.o;have a0:=aB.o.cell A0.o;have aQ:=Aa (bA.o.ex aB.o);clear aF hL hce hfb hmk hel hrv hpv hbase hem aS aR;go_wp2_with fail
  refine(aW.o _).mono ?_;rintro e w3⟨rfl,bG⟩;subst bG;go_wp2_with fail
  refine aO.o.mono ?_;rintro e w4⟨ho,aC⟩;have X4:=Aa ((aI.o.trans aB.o).trans aC);have bK:=Aa (bI.o.ex (aB.o.trans aC));have hw:=aU.o;obtain⟨q0,q1,q2,q3,q4,bF,bE,bD,bC,bB⟩:=aQ.o.ex aC;clear aC g0 g1 g2 a0;rcases ho with⟨hz,rfl⟩|⟨hz,v',rfl,hv',hb'⟩
  .have aK:=Aa hz;clear hz;go_wp2_with fail
   exact bodyPost_ret (v:= .tuple #[.agg #[Ω,Ω,(),Ω,()],L]) db rfl ⟨.inl ⟨by rw[HN.o];exact aK.o,by rw[HN.o]⟩,DY X4.o ac _ _ _ _ _⟩
  .subst hz;have HV:=Aa hv';have HB:Hia (∀B,v'.ownBlock=some B->B≠xb+1+1):=Aa (fun B h=>by
    have h1:=hb' B h;have h2:=aZ.o.size;have h3:=aP.o;simp at h1;omega)
   have bJ:Hia (∀B,v'.ownBlock=some B->w.heap.size<=B):=Aa (fun B h=>by
    have h1:=hb' B h;have h2:=aZ.o.size;have h3:=aP.o;simp at h1;omega)
   obtain⟨va,vc,rfl,-,-,-⟩:=hv'.open;clear hv' hb';have aX:=Aa ((((((bK.o.low (A:=⟨xb+1+1,0,none⟩) aE.o (.int .i64 pn)).low (A:=⟨xb+1+1,1,none⟩) aE.o (.int .i64 mn)).low (A:=⟨xb+1+1,2,none⟩) aE.o (.slice va ml.length vc)).low (A:=⟨xb+1+1,3,none⟩) aE.o (.int .i64 N)).low (A:=⟨xb+1+1,4,none⟩) aE.o (.slice (some (g,0)) piv.length piv.length)));have bH:=Aa (aX.o.msl aJ.o.1 aJ.o.2);go_wp2_with fail
   exact bodyPost_ret (v:= .tuple #[.agg #[pn,mn,(va,ml.length,vc),N,.slice (some ⟨g,0,none⟩) piv.length piv.length],Ω]) db rfl ⟨.inr ⟨HN.o,pn,mn,N,piv,a',_,_,rfl,rfl,rfl,aN.o.1,aN.o.2.1,rfl,aN.o.2.2,Kz HV.o HB.o _ _ _ _ _,bH.o,bJ.o,g,blk,cap,base,by have:=aE.o;omega,rfl,aX.o,aJ.o.1,aJ.o.2⟩,DY X4.o ac _ _ _ _ _⟩
 .have aF:K6 p m ml aA rows=Dx p m ml aA rows:=by unfold K6;rw[if_pos hce]
  have HN:=Aa aF;obtain⟨E,hE⟩:=nA (Dx p m ml aA rows);rw[hE]at HN hce ⊢;have hb:(E==0)=false:=by simpa using hce
  have aK:=Aa hce;have aB:=Aa ((Ex.refl w2).alloc (.cells #[Ω,()] 137));have aO:=Aa (LO _ p m ml _ (aV.o.ex (aI.o.trans aB.o)) hn 0 [] (.slice none 0 0) ⟨[],Sl.nil _ 1,fun i r u h=>by simp at h⟩ E);have g0:=aB.o.cell G0.o;have g1:=aB.o.cell G1.o;have g2:=aB.o.cell G2.o;have aQ:=Aa (bA.o.ex aB.o);clear aF hE hce;go_wp2_with fail
  refine aO.o.mono ?_;rintro e w4⟨ho,aC⟩;rcases ho with⟨_,rfl⟩|⟨h,_⟩
  .obtain⟨q0,q1,q2,q3,q4,bF,bE,bD,bC,bB⟩:=aQ.o.ex aC;have X4:=Aa ((aI.o.trans aB.o).trans aC);have hw:=aU.o;clear aC g0 g1 g2;go_wp2_with fail
   exact bodyPost_ret (v:= .tuple #[.agg #[Ω,Ω,(),Ω,()],E]) db rfl ⟨.inl ⟨by rw[HN.o];exact aK.o,by rw[HN.o]⟩,DY X4.o ac _ _ _ _ _⟩
  .exact absurd h aK.o
def CE(p m:Int)(ml:List Int)(p' m':Int)(aA:List Int):Bool:=p==p'&&m==m'&&ml==aA
theorem Dd{p m:Int}{ml:List Int}{p' m':Int}{ml':List Int}:CE p m ml p' m' ml'=true↔p=p'/\m=m'/\ml=ml':=by
 unfold CE;simp[and_assoc]
theorem zdg{P:Prop}(h:P:=by
 go_wp2_with fail
 go_ret;exact⟨rfl,HE.o⟩):P:=h
theorem zal{P:Prop}(h:P:=by
 have b3:((ml.length:Int) !=(aA.length:Int))=true:=by simp;omega
 have hr:R=false:=by
  rw[<-HR.o];exact Bool.eq_false_iff.2 fun h=>h3 (by rw[(Dd.1 h).2.2])
 subst hr;have h3':¬((ml.length:Int)=(aA.length:Int)):=by omega
 clear h3 h1 h2;exact zdg):P:=h
theorem zam{P:Prop}(h:P:=by
 have:=aM.o j hj;rw[List.getElem?_eq_getElem hj,List.getElem?_eq_getElem (by have:=H3.o;omega)];rw[List.getD_eq_getElem?_getD,List.getElem?_eq_getElem hj,List.getD_eq_getElem?_getD,List.getElem?_eq_getElem (by have:=H3.o;omega)]at this;simpa using this):P:=h
theorem zaq{P:Prop}(h:P:=by
 have aO:(m !=m')=true:=by simpa using h2
 have hr:R=false:=by
  rw[<-HR.o];exact Bool.eq_false_iff.2 fun h=>h2 (Dd.1 h).2.1
 subst hr;clear h1 h2;exact zdg):P:=h
theorem zar{P:Prop}(h:P:=by
 have aP:(p !=p')=true:=by simpa using h1
 have hr:R=false:=by
  rw[<-HR.o];exact Bool.eq_false_iff.2 fun h=>h1 (Dd.1 h).1
 subst hr;clear h1;exact zdg):P:=h
theorem zbo{P:Prop}(h:P:=by
 have hr:R=true:=aL.o.2 (List.ext_getElem? fun j=>by
  by_cases hj:j<ml.length
  .exact zam
  .rw[List.getElem?_eq_none (by omega),List.getElem?_eq_none (by have:=H3.o;omega)])
 subst hr;go_wp2_with fail
 go_ret;exact⟨rfl,HE.o.trans aB.o⟩):P:=h
theorem VJ(w:World)(p m:Int)(ml:List Int)(mv:Value)(aJ:Ak w mv ml)(p' m':Int)(aA:List Int)(aF:Value)(aC:Ak w aF aA):
  Calls Tryz.prog 191 #[.agg #[p,m,mv],.agg #[p',m',aF]] w fun r w'=>r= .returned (.bool (CE p m ml p' m' aA))/\Ex w w':=by
 obtain⟨a0,a1,a2,ea,-⟩:=AA w p m mv;obtain⟨b0,b1,b2,eb,-⟩:=AA (w.alloc (.cells #[p,m,mv] 24)) p' m' aF;replace a0:=eb.cell a0;replace a1:=eb.cell a1;replace a2:=eb.cell a2;have aH:(w.alloc (.cells #[p,m,mv] 24)).heap.size=w.heap.size+1:=ag;rw[aH]at b0 b1 b2;have HE:=Aa (ea.trans eb);obtain⟨ma,mc,rfl,m1',m2,m3⟩:=aJ.open;obtain⟨na,nc,rfl,-,n2,n3⟩:=aC.open;unfold maxLen at m2 n2;obtain⟨R,hR⟩:=nA (CE p m ml p' m' aA);rw[hR];have M3:=Aa m3;have N3:=Aa n3;have HR:=Aa hR;clear aJ aC aH ea eb m3 n3 hR;go_enter Tryz.func191,Tryz.ntmps191
 by_cases h1:p=p'
 .have aP:(p !=p')=false:=by simpa using h1
  by_cases h2:m=m'
  .have aO:(m !=m')=false:=by simpa using h2
   by_cases h3:ml.length=aA.length
   .have b3:((ml.length:Int) !=(aA.length:Int))=false:=by simp;omega
    subst h1;subst h2;have hn:∃n,ml.length=n:=⟨_,rfl⟩;have aL:Hia (R=true↔ml=aA):=Aa (by rw[<-HR.o,Dd];simp);have H3:=Aa h3;rw[<-h3]at a0 a1 a2 b0 b1 b2 HE ⊢;clear h3 b3 hn;go_wp2_with fail
    generalize (w.alloc (.cells #[p,m,(ma,ml.length,mc)] 24)).alloc (.cells #[p,m,(na,ml.length,nc)] 24)=w1 at *;have A2:=Aa a2;have B2:=Aa b2
    go_loopw [31] (fun i' wr=>∃(i:Nat),i<=ml.length/\i'= .int .i64 i/\(∀j,j<i->ml.getD j 0=aA.getD j 0)/\Hia (Ex w1 wr)) (fun i' _=>ml.length-(intOf i').toNat)
    case atStart=>exact⟨0,ac,rfl,fun j hj=>ac,Aa (Ex.refl _)⟩
    case round=>
     obtain⟨i,hi,rfl,aD,aB⟩:=hrel;have aM:=Aa aD;clear aD a0 a1 b0 b1;by_cases hin:i<ml.length
     .obtain⟨mb,mo,rfl,aK⟩:=M3.o ac;obtain⟨nb,no,rfl,aI⟩:=N3.o (by have:=H3.o;omega);have c1:=aB.o.cell (HE.o.cell (aK i _ (show ml[i]?=some (ml.getD i 0) from by rw[δ,γ hin];rfl)));have c2:=aB.o.cell (HE.o.cell (aI i _ (show aA[i]?=some (aA.getD i 0) from by rw[δ,γ (by have:=H3.o;omega)];rfl)));have f2:=aB.o.cell A2.o;have g2:=aB.o.cell B2.o;have j1:(0:Int)<=(i:Int):=by omega
      have j2:(i:Int)<(ml.length:Int):=ac;have aN:m2=m2:=rfl;obtain⟨x,hx⟩:=nA (ml.getD i 0);obtain⟨y,hy⟩:=nA (aA.getD i 0);rw[hx]at c1;rw[hy]at c2;have aE:=Aa (show x=ml.getD i 0/\y=aA.getD i 0 from⟨hx.symm,hy.symm⟩);clear hx hy aK aI a2 b2 aN;by_cases hxy:x=y
      .have aQ:Hia (∀j,j<i+1->ml.getD j 0=aA.getD j 0):=Aa (fun j hj=>by
        by_cases e:j=i
        .subst e;rw[<-aE.o.1,<-aE.o.2,hxy]
        .exact aM.o j ac)
       have bb:(y !=x)=false:=by simp[hxy]
       have aG:y=x:=hxy.symm;subst aG;clear hxy;go_wp2_with fail
       go_roundw
       case rel=>exact⟨i+1,ac,by go_num,aQ.o,aB⟩
       case measure=>exact Ωm
      .have bb:(y !=x)=true:=by simpa using fun h=>hxy h.symm
       have hr:R=false:=Bool.eq_false_iff.2 fun h=>hxy (by rw[aE.o.1,aE.o.2,aL.o.1 h]);subst hr;have aG:¬y=x:=fun h=>hxy h.symm;clear hxy;go_wp2_with fail
       go_ret;exact⟨rfl,HE.o.trans aB.o⟩
     .obtain rfl:i=ml.length:=by omega
      exact zbo
   .exact zal
  .exact zaq
 .exact zar
theorem UV(p m:Int)(ml:List Int)(mv:Value)(w:World)(aP:Ak w mv ml)(cols:Int)(rows:List (List Int))(v:Value)(hv:B6 w v rows):
  Calls Tryz.prog 145 #[.agg #[p,m,mv],.agg #[cols,v]] w fun r w'=>∃e,r= .returned (.int .i64 e)/\Me p m ml cols rows e/\Ex w w':=by
 obtain⟨g0,g1,g2,e0,aH⟩:=AA w p m mv;have aV:=Aa aP;have HV:=Aa hv;obtain⟨za,zc,rfl,z1,z2,z3⟩:=hv.open;have Z3:=Aa z3;unfold maxLen at z2;obtain⟨xb,aJ⟩:=nA w.heap.size;rw[aJ]at g0 g1 g2 aH;have aT:=Aa (fun w' h=>KQ p m ml mv w' h);have aI:=Aa (BU p m ml);have aE:=Aa (show Cm p m ml=0∨Cm p m ml=1 by unfold Cm;split <;> simp);clear aP hv z3;go_enter Tryz.func145,Tryz.ntmps145
 go_wp2_with fail
 try simp only[aJ]
 generalize w.alloc (.cells #[p,m,mv] 24)=wA at *;have a0:(wA.alloc (.cells #[cols,(za,rows.length,zc)] 137)).cell? (xb+1,0)=some (.int .i64 cols):=by rw[<-aH];simp
 have a1:(wA.alloc (.cells #[cols,(za,rows.length,zc)] 137)).cell? (xb+1,1)=some (.slice za rows.length zc):=by rw[<-aH];simp
 have eA:Ex wA (wA.alloc (.cells #[cols,(za,rows.length,zc)] 137)):=(Ex.refl _).alloc _;generalize wA.alloc (.cells #[cols,(za,rows.length,zc)] 137)=wB at *;have b0:=eA.cell g0;have b1:=eA.cell g1;have b2:=eA.cell g2;have eB:=e0.trans eA;clear g0 g1 g2 e0 eA aH aJ wA;refine(aT.o wB (aV.o.ex eB)).mono ?_;rintro r w4⟨rfl,aD⟩;have c0:=aD.cell b0;have c1:=aD.cell b1;have c2:=aD.cell b2;have c3:=aD.cell a0;have c4:=aD.cell a1;have aC:=Aa (eB.trans aD);clear b0 b1 b2 a0 a1 aD eB;by_cases h0:Cm p m ml=0
 .obtain⟨pn,mn,rfl,rfl,aK,aO,aQ⟩:=aI.o.1 h0;have aW:=Aa (show FD pn mn ml from⟨pn,mn,rfl,rfl,aK,aO,aQ⟩);have aY:=Aa (fun w' l v (h:Ak w' v l)=>N6 (mv:=mv) w' aK l v h);have aB:Hia (∀e,e=BV (pn^mn) cols rows->Me pn mn ml cols rows e):=Aa (fun e h=> .inl ⟨pn,mn,rfl,rfl,aW.o,h⟩);have HE:=Aa (show BV (pn^mn) cols rows=if cols<0∨256<cols∨256<(rows.length:Int) then 3
 else if (rows.all fun r=>decide ((r.length:Int)=cols))=true then(if (rows.all fun r=>Ct (pn^mn) r==0)=true then 0 else 2) else 3 from rfl)
  rw[h0];clear h0 aK aO aQ aI aE;by_cases h:cols<0∨256<cols∨256<(rows.length:Int)
  .have HR:=Aa (aB.o 3 (by rw[HE.o,if_pos h]));have hc:cols<0∨(0<=cols/\256<cols)∨(0<=cols/\cols<=256/\256<(rows.length:Int)):=by omega
   clear h HE;rcases hc with hc|⟨h1,h2⟩|⟨h1,h2,h3⟩
   all_goals
    go_wp2_with fail
    go_ret;exact⟨_,rfl,HR.o,aC.o⟩
  .have h1:0<=cols:=by omega
   have h2:cols<=256:=ac;have h3:(rows.length:Int)<=256:=ac;have d1:decide (cols<0)=false:=aq;have d2:decide (256<cols)=false:=aq;have d3:decide (256<(rows.length:Int))=false:=aq;have aS:=Aa (show BV (pn^mn) cols rows=if (rows.all fun r=>decide ((r.length:Int)=cols))=true then(if (rows.all fun r=>Ct (pn^mn) r==0)=true then 0 else 2) else 3 by rw[HE.o,if_neg h]);have aU:Ex w4 w4:=Ex.refl _;clear h HE;go_wp2_with fail
   go_loopw [6] (fun i' wr=>∃i:Nat,i<=rows.length/\i'= .int .i64 i/\Hia (∀(j:Nat) (r:List Int),j<i->rows[j]?=some r->(r.length:Int)=cols)/\Ex w4 wr) (fun i' _=>rows.length-(intOf i').toNat)
   case atStart=>exact⟨0,ac,rfl,Aa (fun j x h=>ac),aU⟩
   case round=>
    clear aU;obtain⟨i,hi,rfl,aA,hx⟩:=hrel;have r0:=hx.cell c3;have r1:=hx.cell c4;by_cases hlt:i<rows.length
    .obtain⟨r,hr⟩:∃r,rows[i]?=some r:=⟨_,γ hlt⟩;obtain⟨bb,o,rfl,hc⟩:=Z3.o ac;obtain⟨u,e1,hu⟩:=hc i r hr;obtain⟨ua,uc,rfl,u1,u2,u3⟩:=hu.open;have e2:=(aC.o.trans hx).cell e1;have i1:(0:Int)<=(i:Int):=by omega
     have i2:(i:Int)<(rows.length:Int):=ac;unfold maxLen at u2;by_cases hl:(r.length:Int)=cols
     .have hb:((r.length:Int) !=cols)=false:=by simpa using hl
      have HA:Hia (∀(j:Nat) (s:List Int),j<i+1->rows[j]?=some s->(s.length:Int)=cols):=Aa (fun j s hj hs=>by
       by_cases e:j=i
       .exact za0
       .exact aA.o j s ac hs)
      clear hl hc e1 hu u3 hr;go_wp2_with fail
      go_quiet (fail)
      go_wp2_with fail
      go_roundw
      case rel=>exact⟨i+1,ac,by go_num,HA,hx.drewN _⟩
      case measure=>exact Ωm
     .have hb:((r.length:Int) !=cols)=true:=by simpa using hl
      have HF:=Aa (aB.o 3 (by
       rw[aS.o,if_neg];intro h;have:=υ.1 h r (ι hr);exact hl ep))
      clear hl hc e1 hu u3 hr;go_wp2_with fail
      go_quiet (fail)
      go_wp2_with fail
      go_ret;exact⟨_,rfl,HF.o,(aC.o.trans hx).drewN _⟩
    .obtain rfl:i=rows.length:=by omega
     have aR:=Aa (show BV (pn^mn) cols rows=if (rows.all fun r=>Ct (pn^mn) r==0)=true then 0 else 2 by
      rw[aS.o,if_pos];rw[υ];intro r hr;obtain⟨j,hj,e⟩:=χ hr;exact decide_eq_true (aA.o j r hj ar))
     clear aA;go_wp2_with fail
     obtain⟨wo,rfl⟩:∃wo:World,wo=wr:=⟨_,rfl⟩;clear r0 r1
     go_loopw [5,7] (fun e' i' wr=>∃i:Nat,i<=rows.length/\i'= .int .i64 i/\e'= .int .i64 0/\Hia (∀(j:Nat) (r:List Int),j<i->rows[j]?=some r->Ct (pn^mn) r=0)/\Ex w4 wr) (fun _ i' _=>rows.length-(intOf i').toNat)
     case atStart=>exact⟨0,ac,rfl,rfl,Aa (fun j x h=>ac),hx⟩
     case round=>
      clear hx;obtain⟨i,hi,rfl,rfl,aA,hx⟩:=hrel;have r0:=hx.cell c3;have r1:=hx.cell c4;have s0:=hx.cell c0;have s1:=hx.cell c1;have s2:=hx.cell c2;by_cases hlt:i<rows.length
      .obtain⟨r,hr⟩:∃r,rows[i]?=some r:=⟨_,γ hlt⟩;obtain⟨bb,o,rfl,hc⟩:=Z3.o ac;obtain⟨u,e1,hu⟩:=hc i r hr;have aN:=hu.ex (aC.o.trans hx);obtain⟨ua,uc,rfl,u1,u2,u3⟩:=hu.open;have e2:=(aC.o.trans hx).cell e1;have i1:(0:Int)<=(i:Int):=by omega
       have i2:(i:Int)<(rows.length:Int):=ac;have aG:=Aa (aY.o wr.drew r _ aN);have aM:=hx.drew;unfold maxLen at u2;obtain⟨ev,aF⟩:=nA (Ct (pn^mn) r);have aL:ev=0∨ev=2:=by rw[<-aF];exact T7
       rw[aF]at aG;have HA:Hia (ev=0->∀(j:Nat) (s:List Int),j<i+1->rows[j]?=some s->Ct (pn^mn) s=0):=Aa (fun h0 j s hj hs=>by
        by_cases e:j=i
        .subst e;rw[hr]at hs;injection hs with hs;subst hs;rw[aF,h0]
        .exact aA.o j s ac hs)
       have HF:Hia (ev≠0->Me pn mn ml cols rows 2):=Aa (fun h0=>aB.o 2 (by
        rw[aR.o,if_neg];intro h;have:=υ.1 h r (ι hr);rw[aF]at this;exact h0 ep))
       clear hc e1 hu aN u3 hr aF;go_wp2_with fail
       go_region_held3 (fun w'=>w'.cell? (xb,0)=some (.int .i64 pn)/\w'.cell? (xb,1)=some (.int .i64 mn)/\w'.cell? (xb,2)=some mv/\w'.cell? (xb+1,1)=some (.slice (some (bb,o)) rows.length zc)/\w'.cell? (bb,o+i)=some (.slice ua r.length uc))
        (first|exact⟨s0,s1,s2,r1,e2⟩|exact⟨hx5.cell s0,hx5.cell s1,hx5.cell s2,hx5.cell r1,hx5.cell e2⟩)
        ((go_at_call 153;refine aG.o.mono ?_;rintro e w5⟨rfl,hx5⟩))
       rcases aL with h0|h0
       .subst h0;have aZ:=Aa (HA.o rfl);go_wp2_with fail
        go_roundw
        case rel=>exact⟨i+1,ac,by go_num,rfl,aZ,aM.trans hx5⟩
        case measure=>exact Ωm
       .subst h0;have aX:=Aa (HF.o ac);go_wp2_with fail
        go_ret;exact⟨_,rfl,aX.o,aC.o.trans (aM.trans hx5)⟩
      .obtain rfl:i=rows.length:=by omega
       have HF:=Aa (aB.o 0 (by
        rw[aR.o,if_pos];rw[υ];intro r hr;obtain⟨j,hj,e⟩:=χ hr;rw[aA.o j r hj ar];rfl))
       go_wp2_with fail
       go_ret;exact⟨_,rfl,HF.o,aC.o.trans hx⟩
 .have h1:Cm p m ml=1:=by rcases aE.o with h|h;exact absurd h h0;exact h
  have HN:Hia (Me p m ml cols rows 1):=Aa (.inr ⟨fun h=>h0 (aI.o.2 h),rfl⟩);rw[h1];clear h0 h1 aI aE aT;go_wp2_with fail
  go_ret;exact⟨_,rfl,HN.o,aC.o⟩
end Go.Proofs.YtehieobniamagaaGreat
