/- Walk of equivalence.start. -/
import Derived.Test.YtehieobniamagaaGreatZp14
import Derived.Test.YtehieobniamagaaGreatZp17
import Derived.Test.YtehieobniamagaaGreatZp19
namespace Go.Proofs.YtehieobniamagaaGreat
set_option linter.unusedVariables false
set_option linter.unusedSimpArgs false
set_option maxRecDepth 100000
set_option maxHeartbeats 8000000
section
open Go.RowKit
def Fb(e1 e2:Int)(aA:Bool)(n n':Int)(tl sl:List Int)(q:Nat):Int:=
 if e1≠0 then e1 else if e2≠0 then e2 else if aA=false∨n≠n' then 10 else if tl.length≠sl.length∨n<tl.length then 3 else if EU tl n≠0 then EU tl n else D4 q sl
structure AZ where
 p:Int
 m:Int
 ml:List Int
 n:Int
 rows:List (List Int)
def AZ.arg(c:AZ)(mv gv:Value):Value:= .agg #[.int .i64 c.p,.int .i64 c.m,mv,.int .i64 c.n,gv]
def AZ.obj(c:AZ)(mv gv:Value):Obj:= .cells #[.int .i64 c.p,.int .i64 c.m,mv,.int .i64 c.n,gv] 39
structure AZ.at(c:AZ)(w:World)(mv gv:Value):Prop where
 m:Ak w mv c.ml
 g:B6 w gv c.rows
theorem AZ.at.ex{c:AZ}{w w':World}{mv gv:Value}(h:c.at w mv gv)(hx:Ex w w'):c.at w' mv gv:=⟨h.m.ex hx,h.g.ex hx⟩
def StO(c d:AZ)(tl sl:List Int)(v1 v2:Value)(w:World)(r:Ending)(w':World):Prop:=
 ∃e1 e2:Int,Cm c.p c.m c.ml c.n c.rows e1/\(e1=0->Cm d.p d.m d.ml d.n d.rows e2)/\
  ((Fb e1 e2 (Cw c.p c.m c.ml d.p d.m d.ml) c.n d.n tl sl (c.p.toNat^c.m.toNat)≠0/\∃ptr:Option Addr,r= .returned (.tuple #[.pointer ptr,.int .i64 (Fb e1 e2 (Cw c.p c.m c.ml d.p d.m d.ml) c.n d.n tl sl (c.p.toNat^c.m.toNat))]))∨
  (Fb e1 e2 (Cw c.p c.m c.ml d.p d.m d.ml) c.n d.n tl sl (c.p.toNat^c.m.toNat)=0/\∃(w2:World) (A b x0 pn mn nn:Nat),c.p=pn/\c.m=mn/\c.n=nn/\r= .returned (.tuple #[.pointer (some ⟨A,0,none⟩),.int .i64 0])/\Ex w w2/\AR w2 b pn mn c.ml x0/\1<=x0/\x0<pn^mn/\w2.heap.size<=A/\Ex w2 w'/\Kn w' A b nn v1 v2/\w'.cell? ⟨A,11,none⟩=some (.int .i64 0)/\w'.frozen? ⟨A,11,none⟩=false))
theorem EJ{p m:Int}{ml:List Int}{n:Int}{rows:List (List Int)}(h:Cm p m ml n rows 0):F9 p m ml/\1<=n/\n<=64:=by
 rcases h with⟨_,h⟩|⟨_,h1,h2⟩|⟨h1,h2,h3⟩
 .cases h
 .exact absurd h2.symm h1
 .refine⟨?_,?_⟩
  .rcases h3 with⟨h3,h4⟩|⟨_,pn,mn,N,piv,a',_,_,_,h,_⟩
   .exact absurd h4.symm h3
   .exact h
  .unfold GK at h2;split at h2
   .cases h2
   .omega
theorem Dv(w:World)(c:AZ)(mv gv:Value):(w.alloc (c.obj mv gv)).cell? ⟨w.heap.size,0,none⟩=some (.int .i64 c.p)/\(w.alloc (c.obj mv gv)).cell? ⟨w.heap.size,1,none⟩=some (.int .i64 c.m)/\(w.alloc (c.obj mv gv)).cell? ⟨w.heap.size,2,none⟩=some mv/\(w.alloc (c.obj mv gv)).cell? ⟨w.heap.size,3,none⟩=some (.int .i64 c.n)/\(w.alloc (c.obj mv gv)).cell? ⟨w.heap.size,4,none⟩=some gv:=
 ⟨by simp[AZ.obj],by simp[AZ.obj],by simp[AZ.obj],by simp[AZ.obj],by simp[AZ.obj]⟩
theorem Fn{c d:AZ}{tl sl:List Int}{v1 v2:Value}{w w':World}{e1 e2 E:Int}(h1:Cm c.p c.m c.ml c.n c.rows e1)(h2:e1=0->Cm d.p d.m d.ml d.n d.rows e2)(hE:Fb e1 e2 (Cw c.p c.m c.ml d.p d.m d.ml) c.n d.n tl sl (c.p.toNat^c.m.toNat)=E)(h:E≠0)(aA:Option Addr):
  StO c d tl sl v1 v2 w (.returned (.tuple #[.pointer aA,.int .i64 E])) w':=
 ⟨e1,e2,h1,h2,.inl ⟨by rw[hE];exact h,aA,by rw[hE]⟩⟩
theorem zaS{P:Prop}(h:P:=by
 go_wp2_with (go_at_call 191;refine aG.o.mono ?_;rintro e w4⟨rfl,aC⟩;have aB:=Aa (aE.o.trans aC);clear c0 c1 c2 c3 c4 d0 d1 d2 d3 d4 b0 b1;obtain⟨c0,c1,c2,c3,c4,d0,d1,d2,d3,d4,b0,b1⟩:=aA.o w4 aB.o;clear aC)
 go_ret2;exact⟨Fn aD.o (fun _=>aF.o) HE.o (by decide) _,HX.o.trans aB.o⟩):P:=h
theorem cz{P:Prop}(h:P:=by simpa using h1):P:=h
theorem GY(w:World)(c d:AZ)(m1 m2 v1 v2:Value)(hc:c.at w m1 v1)(hd:d.at w m2 v2)(tl sl:List Int)(tv sv:Value)(ht:Ak w tv tl)(hs:Ak w sv sl):
  Calls Tryz.prog 141 #[c.arg m1 v1,d.arg m2 v2,.agg #[tv,sv]] w fun r w'=>StO c d tl sl v1 v2 w r w'/\Ex w w':=by
 obtain⟨c0,c1,c2,c3,c4⟩:=Dv w c m1 v1;obtain⟨d0,d1,d2,d3,d4⟩:=Dv (w.alloc (c.obj m1 v1)) d m2 v2;obtain⟨b0,b1,e3,-⟩:=AK ((w.alloc (c.obj m1 v1)).alloc (d.obj m2 v2)) tv sv;have aW:(w.alloc (c.obj m1 v1)).heap.size=w.heap.size+1:=ag;have aV:((w.alloc (c.obj m1 v1)).alloc (d.obj m2 v2)).heap.size=w.heap.size+1+1:=ag;have e1:=AI w (c.obj m1 v1);have e2:=AI (w.alloc (c.obj m1 v1)) (d.obj m2 v2);rw[aW]at d0 d1 d2 d3 d4;rw[aV]at b0 b1;have aX:=e1.trans (e2.trans e3);replace c0:=(e2.trans e3).cell c0;replace c1:=(e2.trans e3).cell c1;replace c2:=(e2.trans e3).cell c2;replace c3:=(e2.trans e3).cell c3;replace c4:=(e2.trans e3).cell c4;replace d0:=e3.cell d0;replace d1:=e3.cell d1;replace d2:=e3.cell d2;replace d3:=e3.cell d3;replace d4:=e3.cell d4;obtain⟨B,hB⟩:=nA w.heap.size;rw[hB]at c0 c1 c2 c3 c4 d0 d1 d2 d3 d4 b0 b1;obtain⟨ta,tc,rfl,-,t2,-⟩:=ht.open;obtain⟨sa,sc,rfl,-,s2,-⟩:=hs.open;obtain⟨x1,y1,rfl,-,z1,-⟩:=hc.g.open;obtain⟨x2,y2,rfl,-,z2,-⟩:=hd.g.open;obtain⟨x3,y3,rfl,-,z3,-⟩:=hc.m.open;obtain⟨x4,y4,rfl,-,z4,-⟩:=hd.m.open;unfold maxLen at t2 s2 z1 z2 z3 z4;have HX:=Aa aX;have HC:=Aa hc;have HD:=Aa hd;have HT:=Aa ht;have HS:=Aa hs;clear hc hd ht hs e1 e2 e3 aW aV aX;unfold AZ.arg;go_enter Tryz.func141,Tryz.ntmps141
 unfold AZ.obj at c0 c1 c2 c3 c4 d0 d1 d2 d3 d4 b0 b1 HX;go_upto_region 1 with fail
 try simp only[hB]
 clear hB;generalize ((w.alloc (.cells #[.int .i64 c.p,.int .i64 c.m,.slice x3 c.ml.length y3,.int .i64 c.n,.slice x1 c.rows.length y1] 39)).alloc (.cells #[.int .i64 d.p,.int .i64 d.m,.slice x4 d.ml.length y4,.int .i64 d.n,.slice x2 d.rows.length y2] 39)).alloc (.cells #[.slice ta tl.length tc,.slice sa sl.length sc] 71)=w1 at *;have aA:=Aa (fun w' (h:Ex w1 w')=>(⟨h.cell c0,h.cell c1,h.cell c2,h.cell c3,h.cell c4,h.cell d0,h.cell d1,h.cell d2,h.cell d3,h.cell d4,h.cell b0,h.cell b1⟩:_/\_/\_/\_/\_/\_/\_/\_/\_/\_/\_/\_));have aL:=Aa (Dm w1 c.p c.m c.ml _ (HC.o.m.ex HX.o) c.n c.rows _ (HC.o.g.ex HX.o));go_wp2_with fail
 refine aL.o.mono ?_;rintro e w2⟨⟨e1,rfl,bA⟩,aQ⟩;clear c0 c1 c2 c3 c4 d0 d1 d2 d3 d4 b0 b1 aL;obtain⟨c0,c1,c2,c3,c4,d0,d1,d2,d3,d4,b0,b1⟩:=aA.o w2 aQ;have aJ:=Aa aQ;have aD:=Aa bA;clear aQ bA;by_cases h1:e1=0
 .have k1:(e1==0)=true:=by simpa using h1
  have HF:=Aa (EJ (h1 ▸ aD.o));have aL:=Aa (Dm w2 d.p d.m d.ml _ (HD.o.m.ex (HX.o.trans aJ.o)) d.n d.rows _ (HD.o.g.ex (HX.o.trans aJ.o)));have H1:=Aa h1;subst h1;go_wp2_with fail
  refine aL.o.mono ?_;rintro e w3⟨⟨e2,rfl,aZ⟩,aP⟩;clear c0 c1 c2 c3 c4 d0 d1 d2 d3 d4 b0 b1 aL;obtain⟨c0,c1,c2,c3,c4,d0,d1,d2,d3,d4,b0,b1⟩:=aA.o w3 (aJ.o.trans aP);have aE:=Aa (aJ.o.trans aP);have aF:=Aa aZ;clear aP aZ aJ;by_cases h2:e2=0
  .have k2:(e2==0)=true:=by simpa using h2
   have aG:=Aa (Sd w3 c.p c.m c.ml _ (HC.o.m.ex (HX.o.trans aE.o)) d.p d.m d.ml _ (HD.o.m.ex (HX.o.trans aE.o)));obtain⟨Sm,aR⟩:∃b,Cw c.p c.m c.ml d.p d.m d.ml=b:=⟨_,rfl⟩;rw[aR]at aG;have aN:=Aa aR;subst h2;clear aR
   cases Sm with
   | false=>
    have HE:=Aa (show Fb 0 0 (Cw c.p c.m c.ml d.p d.m d.ml) c.n d.n tl sl (c.p.toNat^c.m.toNat)=10 from by
     unfold Fb;rw[if_neg ae,if_neg ae,if_pos (.inl aN.o)])
    exact zaS
   | true=>
    by_cases hn:c.n=d.n
    .have k3:(c.n !=d.n)=false:=by simp[hn]
     by_cases hl:tl.length=sl.length
     .have k4:((tl.length:Int) !=(sl.length:Int))=false:=by simp;omega
      have bG:(tl.length !=sl.length)=false:=al;by_cases hg:c.n<tl.length
      .have k5:decide ((tl.length:Int) > c.n)=true:=by simpa using hg
       have bF:decide (c.n<(tl.length:Int))=true:=by simpa using hg
       have HE:=Aa (show Fb 0 0 (Cw c.p c.m c.ml d.p d.m d.ml) c.n d.n tl sl (c.p.toNat^c.m.toNat)=3 from by
        unfold Fb;rw[if_neg ae,if_neg ae,if_neg (by rw[aN.o];simp[hn]),if_pos (.inr hg)])
       have bJ:=Aa hl;clear hn hl hg;exact zaS
      .have k5:decide ((tl.length:Int) > c.n)=false:=by simpa using hg
       have bF:decide (c.n<(tl.length:Int))=false:=by simpa using hg
       have HE:=Aa (show Fb 0 0 (Cw c.p c.m c.ml d.p d.m d.ml) c.n d.n tl sl (c.p.toNat^c.m.toNat)=if EU tl c.n≠0 then EU tl c.n else D4 (c.p.toNat^c.m.toNat) sl from by
        unfold Fb;rw[if_neg ae,if_neg ae,if_neg (by rw[aN.o];simp[hn]),if_neg ac])
       have aU:=Aa (fun w' (h:Ex w1 w')=>Gb w' tl _ c.n (HT.o.ex (HX.o.trans h)));obtain⟨I,hI⟩:=nA (EU tl c.n);rw[hI]at aU HE;have bJ:=Aa hl;clear hn hl hg hI;by_cases hi0:I=0
       .have k6:(I !=0)=false:=by simp[hi0]
        have bE:(I==0)=true:=by simp[hi0]
        have bH:=Aa (fun w' (h:Ex w1 w')=>E4 c.p c.m c.ml _ w' (HC.o.m.ex (HX.o.trans h)));have aH:=HE.o;rw[if_neg (by simp[hi0])]at aH;have HE:=Aa aH;subst hi0;clear aH;go_wp2_with (first|(go_at_call 191;refine aG.o.mono ?_;rintro e w4⟨rfl,aC⟩;have aB:=Aa (aE.o.trans aC);clear c0 c1 c2 c3 c4 d0 d1 d2 d3 d4 b0 b1;obtain⟨c0,c1,c2,c3,c4,d0,d1,d2,d3,d4,b0,b1⟩:=aA.o w4 aB.o;clear aC)|(go_at_call 150;refine(aU.o _ aB.o).mono ?_;rintro e w5⟨rfl,aK⟩;have aI:=Aa (aB.o.trans aK);clear c0 c1 c2 c3 c4 d0 d1 d2 d3 d4 b0 b1;obtain⟨c0,c1,c2,c3,c4,d0,d1,d2,d3,d4,b0,b1⟩:=aA.o w5 aI.o;clear aK))
        refine(bH.o _ aI.o).mono ?_;rintro e w6⟨ho,aY⟩;clear c0 c1 c2 c3 c4 d0 d1 d2 d3 d4 b0 b1;have aT:=Aa (aI.o.trans aY);obtain⟨c0,c1,c2,c3,c4,d0,d1,d2,d3,d4,b0,b1⟩:=aA.o w6 aT.o;clear aY;rcases ho with⟨pn,mn,x0,b,hp,hm,rfl,hgf,hx01,hx02⟩|⟨hnf,_⟩
        .have bD:=Aa (Io w6 hgf sl _ (HS.o.ex (HX.o.trans aT.o)));have HG:=Aa hgf;obtain⟨Fc,aS⟩:∃F,D4 (pn^mn) sl=F:=⟨_,rfl⟩;rw[aS]at bD;have bC:=Aa (show c.p=pn/\c.m=mn from⟨hp,hm⟩);have HE:=Aa (show Fb 0 0 (Cw c.p c.m c.ml d.p d.m d.ml) c.n d.n tl sl (c.p.toNat^c.m.toNat)=Fc from by
          rw[HE.o,hp,hm,<-aS];rfl)
         have bB:=Aa (show 1<=x0/\x0<pn^mn from⟨hx01,hx02⟩);clear hgf aS hp hm hx01 hx02;go_wp2_with fail
         refine bD.o.mono ?_;rintro e w7⟨rfl,aO⟩;clear c0 c1 c2 c3 c4 d0 d1 d2 d3 d4 b0 b1;have aM:=Aa (aT.o.trans aO);have bK:=Aa (HG.o.ex aO);obtain⟨c0,c1,c2,c3,c4,d0,d1,d2,d3,d4,b0,b1⟩:=aA.o w7 aM.o;clear aO;go_wp2_with fail
         go_ret2;by_cases hf0:Fc=0
         .subst hf0;refine⟨⟨0,0,aD.o,fun _=>aF.o,.inr ⟨HE.o,w7,w7.heap.size,b,x0,pn,mn,c.n.toNat,bC.o.1,bC.o.2,by have:=HF.o.2.1;omega,rfl,HX.o.trans aM.o,bK.o,bB.o.1,bB.o.2,Nat.le_refl _,AI w7 _,⟨ag,?_,ag,ag⟩,ag,ag⟩⟩,(HX.o.trans aM.o).alloc _⟩;have:((c.n.toNat:Nat):Int)=c.n:=by have:=HF.o.2.1;omega
          rw[this];simp
         .exact⟨Fn aD.o (fun _=>aF.o) HE.o hf0 _,(HX.o.trans aM.o).alloc _⟩
        .exact absurd HF.o.1 hnf
       .have k6:(I !=0)=true:=by simpa using hi0
        have bE:(I==0)=false:=by simpa using hi0
        have aH:=HE.o;rw[if_pos hi0]at aH;have HE:=Aa aH;have bI:=Aa hi0;clear aH hi0;go_wp2_with (first|(go_at_call 191;refine aG.o.mono ?_;rintro e w4⟨rfl,aC⟩;have aB:=Aa (aE.o.trans aC);clear c0 c1 c2 c3 c4 d0 d1 d2 d3 d4 b0 b1;obtain⟨c0,c1,c2,c3,c4,d0,d1,d2,d3,d4,b0,b1⟩:=aA.o w4 aB.o;clear aC)|(go_at_call 150;refine(aU.o _ aB.o).mono ?_;rintro e w5⟨rfl,aK⟩;have aI:=Aa (aB.o.trans aK);clear c0 c1 c2 c3 c4 d0 d1 d2 d3 d4 b0 b1;obtain⟨c0,c1,c2,c3,c4,d0,d1,d2,d3,d4,b0,b1⟩:=aA.o w5 aI.o;clear aK))
        go_ret2;exact⟨Fn aD.o (fun _=>aF.o) HE.o bI.o _,HX.o.trans aI.o⟩
     .have k4:((tl.length:Int) !=(sl.length:Int))=true:=by simp;omega
      have bG:(tl.length !=sl.length)=true:=al;have HE:=Aa (show Fb 0 0 (Cw c.p c.m c.ml d.p d.m d.ml) c.n d.n tl sl (c.p.toNat^c.m.toNat)=3 from by
       unfold Fb;rw[if_neg ae,if_neg ae,if_neg (by rw[aN.o];simp[hn]),if_pos (.inl hl)])
      clear hn hl;exact zaS
    .have k3:(c.n !=d.n)=true:=by simpa using hn
     have HE:=Aa (show Fb 0 0 (Cw c.p c.m c.ml d.p d.m d.ml) c.n d.n tl sl (c.p.toNat^c.m.toNat)=10 from by
      unfold Fb;rw[if_neg ae,if_neg ae,if_pos (.inr hn)])
     clear hn;exact zaS
  .have k2:(e2==0)=false:=by simpa using h2
   have k2':(e2 !=0)=true:=by simpa using h2
   have HE:=Aa (show Fb 0 e2 (Cw c.p c.m c.ml d.p d.m d.ml) c.n d.n tl sl (c.p.toNat^c.m.toNat)=e2 from by
    unfold Fb;rw[if_neg ae,if_pos h2])
   have HI:=Aa h2;clear h2;go_wp2_with fail
   go_ret2;exact⟨Fn aD.o (fun _=>aF.o) HE.o HI.o _,HX.o.trans aE.o⟩
 .have k1:(e1==0)=false:=by simpa using h1
  have k1':(e1 !=0)=true:=cz;have HE:=Aa (show Fb e1 0 (Cw c.p c.m c.ml d.p d.m d.ml) c.n d.n tl sl (c.p.toNat^c.m.toNat)=e1 from by
   unfold Fb;rw[if_pos h1])
  have HI:=Aa h1;clear h1;go_wp2_with fail
  go_ret2;exact⟨Fn aD.o (fun h=>absurd h HI.o) HE.o HI.o _,HX.o.trans aJ.o⟩
end
section
open Go.RowKit
structure PH(w2:World)(A b n:Nat)(v1 v2:Value)(s:Nat × List Nd)(w:World):Prop where
 ex:Ex w2 w
 pr:Kn w A b n v1 v2
 c11:w.cell? ⟨A,11,none⟩=some (.int .i64 s.1)
 f11:w.frozen? ⟨A,11,none⟩=false
 l1:s.2.length<=s.1
 l2:s.1<=65536
 lb:w2.heap.size<=A
section
variable {w2 w w':World} {A b n:Nat} {v1 v2:Value} {s:Nat × List Nd}
theorem PH.later(h:PH w2 A b n v1 v2 s w)(hx:Ex w w'):PH w2 A b n v1 v2 s w':=
 ⟨h.ex.trans hx,h.pr.ex hx,hx.cell h.c11,hx.frz h.c11 h.f11,h.l1,h.l2,h.lb⟩
theorem PH.seen(h:PH w2 A b n v1 v2 s w)(hs:s.1<65536):PH w2 A b n v1 v2 (s.1+1,s.2) (w.setCell ⟨A,11,none⟩ (.int .i64 ((s.1:Int)+1))):=
 ⟨h.ex.setCell (p:=⟨A,11,none⟩) h.lb _,⟨by rw[Ag ae];exact h.pr.c0,by rw[Ag ae];exact h.pr.c4,by rw[Ag ae];exact h.pr.c5,by rw[Ag ae];exact h.pr.c10⟩,by
  rw[World.cell?_setCell_same _ _ _ h.c11];simp,by rw[Au];exact h.f11,by have:=h.l1;show s.2.length<=s.1+1;omega,by show s.1+1<=65536;omega,h.lb⟩
theorem PH.other(h:PH w2 A b n v1 v2 s w){B j:Nat}(hB:B≠A)(hb:w2.heap.size<=B)(u:Value):PH w2 A b n v1 v2 s (w.setCell ⟨B,j,none⟩ u):=
 ⟨h.ex.setCell (p:=⟨B,j,none⟩) hb _,⟨by rw[Ah hB];exact h.pr.c0,by rw[Ah hB];exact h.pr.c4,by rw[Ah hB];exact h.pr.c5,by rw[Ah hB];exact h.pr.c10⟩,by rw[Ah hB];exact h.c11,by rw[Au];exact h.f11,h.l1,h.l2,h.lb⟩
theorem PH.note(h:PH w2 A b n v1 v2 s w)(hl:s.2.length<s.1)(x:Nd):PH w2 A b n v1 v2 (s.1,s.2 ++ [x]) w:=
 ⟨h.ex,h.pr,h.c11,h.f11,by rw[List.length_append];show s.2.length+1<=s.1;omega,h.l2,h.lb⟩
end
theorem Ew{DM:World->Nat->Prop}{w:World}{B j:Nat}{u:Value}(h:DM w B)(hi:∀X,DM (w.setCell ⟨B,j,none⟩ u) X->DM w X):AE DM w (w.setCell ⟨B,j,none⟩ u):=
 ⟨ag,fun X hX hn=>⟨Below.heap_setCell w ⟨B,j,none⟩ u X (fun e=>hn (by rw[e];exact h)),fun hd=>hn (hi X hd)⟩⟩
def PX(A NB:Nat):World->Nat->Prop:=fun _ X=>X=A∨X=NB
def DU(L:List Nd):Nd:=L.getLast?.getD ⟨[], [],0, []⟩
theorem Hl(L:List Nd)(x:Nd):DU (L ++ [x])=x:=by unfold DU;simp
structure PU(w2:World)(A NB b n:Nat)(v1 v2:Value)(s:Nat × List Nd)(w:World):Prop where
 sw:PH w2 A b n v1 v2 s w
 ne:NB≠A
 lb:w2.heap.size<=NB
 nb:∃tv sv,w.cell? ⟨NB,0,none⟩=some tv/\w.cell? ⟨NB,1,none⟩=some sv/\Cu (PX A NB) w tv (DU s.2).tl/\Cu (PX A NB) w sv (DU s.2).sc
 f0:w.frozen? ⟨NB,0,none⟩=false
 f1:w.frozen? ⟨NB,1,none⟩=false
 ll:(DU s.2).tl.length<=64/\(DU s.2).sc.length<=64
section
variable {w2 w w':World} {A NB b n:Nat} {v1 v2:Value} {s:Nat × List Nd}
theorem PU.stt:Sj (PU w2 A NB b n v1 v2) (PX A NB) where
 ex:=fun s w w' h hx=>by
  obtain⟨tv,sv,h1,h2,h3,h4⟩:=h.nb;have hk:AE (PX A NB) w w':=⟨hx.size,fun B hB hn=>⟨hx.block B hB,hn⟩⟩;exact⟨h.sw.later hx,h.ne,h.lb,⟨tv,sv,hx.cell h1,hx.cell h2,h3.keep hk,h4.keep hk⟩,hx.frz h1 h.f0,hx.frz h2 h.f1,h.ll⟩
 lt:=fun s w B h hd=>by
  rcases hd with rfl|rfl
  .exact World.block_lt_of_cell? _ _ h.sw.c11
  .obtain⟨tv,sv,h1,-⟩:=h.nb;exact World.block_lt_of_cell? _ _ h1
 dx:=fun s w w' B h hx hd=>hd
theorem PU.seen(h:PU w2 A NB b n v1 v2 s w)(hs:s.1<65536):PU w2 A NB b n v1 v2 (s.1+1,s.2) (w.setCell ⟨A,11,none⟩ (.int .i64 ((s.1:Int)+1)))/\AE (PX A NB) w (w.setCell ⟨A,11,none⟩ (.int .i64 ((s.1:Int)+1))):=by
 have hk:AE (PX A NB) w (w.setCell ⟨A,11,none⟩ (.int .i64 ((s.1:Int)+1))):=Ew (.inl rfl) fun X h=>h;obtain⟨tv,sv,h1,h2,h3,h4⟩:=h.nb;exact⟨⟨h.sw.seen hs,h.ne,h.lb,⟨tv,sv,by rw[Ah (fun e=>h.ne e.symm)];exact h1,by rw[Ah (fun e=>h.ne e.symm)];exact h2,h3.keep hk,h4.keep hk⟩,by rw[Au];exact h.f0,by rw[Au];exact h.f1,h.ll⟩,hk⟩
theorem PU.set(h:PU w2 A NB b n v1 v2 s w)(hl:s.2.length<s.1){tl sl msg:List Int}{side:Int}{tv sv:Value}(ht:Cu (PX A NB) w tv tl)(hs:Cu (PX A NB) w sv sl)(aA:tl.length<=64)(aB:sl.length=tl.length):
  PU w2 A NB b n v1 v2 (s.1,s.2 ++ [⟨tl,sl,side,msg⟩]) ((w.setCell ⟨NB,0,none⟩ tv).setCell ⟨NB,1,none⟩ sv)/\AE (PX A NB) w ((w.setCell ⟨NB,0,none⟩ tv).setCell ⟨NB,1,none⟩ sv):=by
 have hk:AE (PX A NB) w ((w.setCell ⟨NB,0,none⟩ tv).setCell ⟨NB,1,none⟩ sv):=(Ew (.inr rfl) fun X h=>h).trans (Ew (.inr rfl) fun X h=>h);obtain⟨tv',sv',h1,h2,h3,h4⟩:=h.nb;refine⟨⟨((h.sw.other h.ne h.lb tv).other h.ne h.lb sv).note hl _,h.ne,h.lb,⟨tv,sv,?_,?_,?_,?_⟩,by rw[Au,Au];exact h.f0,by rw[Au,Au];exact h.f1,by show(DU (s.2 ++ [_])).tl.length<=64/\_;rw[Hl];exact⟨aA,by rw[aB];exact aA⟩⟩,hk⟩
 .rw[Ag ae];exact World.cell?_setCell_same _ _ _ h1
 .exact World.cell?_setCell_same _ _ _ (by rw[Ag ae];exact h2)
 .show Cu _ _ tv (DU (s.2 ++ [_])).tl
  rw[Hl];exact ht.keep hk
 .show Cu _ _ sv (DU (s.2 ++ [_])).sc
  rw[Hl];exact hs.keep hk
theorem T6(h:PU w2 A NB b n v1 v2 s w)(hl:s.2.length<s.1){tl sl msg:List Int}{side:Int}{tv sv mv:Value}(ht:Cu (PX A NB) w tv tl)(hs:Cu (PX A NB) w sv sl)(aD:tl.length<=64)(aB:sl.length=tl.length):
  Calls Tryz.prog 172 #[.agg #[tv,sv],.int .i64 side,mv,.pointer (some ⟨NB,0,none⟩)] w fun r w'=>(∃t,r= .returned t)/\PU w2 A NB b n v1 v2 (s.1,s.2 ++ [⟨tl,sl,side,msg⟩]) w'/\AE (PX A NB) w w':=by
 obtain⟨b0,b1,e1,-⟩:=AK w tv sv;have h1:=PU.stt.ex _ _ _ h e1;have aA:=PU.stt.keeps h e1;obtain⟨h2,aC⟩:=h1.set hl (side:=side) (msg:=msg) (ht.keep aA) (hs.keep aA) aD aB;obtain⟨tv',sv',c0,c1,-,-⟩:=h1.nb;have f0:=h1.f0;have f1:=h1.f1;obtain⟨ta,tc,rfl,-,-,-⟩:=ht.1.open;obtain⟨sa,sc,rfl,-,-,-⟩:=hs.1.open;have H2:=Aa h2;have HK:=Aa (aA.trans aC);clear h ht hs h1 aA h2 aC e1 aB;go_enter Tryz.func172,Tryz.ntmps172
 go_wp2_with fail
 go_end0
 exact⟨⟨_,rfl⟩,H2.o,HK.o⟩
end
theorem We{w2:World}{p m n A NB b x0:Nat}{ml:List Int}{l1 l2:List (List Int)}{v1 v2:Value}(hg:AR w2 b p m ml x0)(x1:1<=x0)(x2:x0<p^m)(h1:B6 w2 v1 l1)(h2:B6 w2 v2 l2)(hn:n<=64)(r1:∀r∈l1,r.length=n)(r2:∀r∈l2,r.length=n)(k1:l1.length<=256)(k2:l2.length<=256):
  Yy p m ml l1 l2 n A b x0 v1 v2 (PU w2 A NB b n v1 v2) (PX A NB) where
 stt:=PU.stt
 pr:=fun s w h=>h.sw.pr
 gf:=fun s w h=>hg.ex h.sw.ex
 m1:=fun s w h=>h1.ex h.sw.ex
 m2:=fun s w h=>h2.ex h.sw.ex
 c11:=fun s w h=>⟨h.sw.c11,h.sw.f11⟩
 le:=fun s w h=>⟨h.sw.l1,h.sw.l2⟩
 seen:=fun s w h hs=>h.seen hs
 x1:=x1
 x2:=x2
 n64:=hn
 r1:=r1
 r2:=r2
 k1:=k1
 k2:=k2
theorem CQ{p m:Int}{ml:List Int}{n:Int}{rows:List (List Int)}(h:Cm p m ml n rows 0):rows.length<=256/\∀r∈rows,(r.length:Int)=n:=by
 rcases h with⟨_,h⟩|⟨_,h1,h2⟩|⟨h1,h2,h3⟩
 .cases h
 .exact absurd h2.symm h1
 .rcases h3 with⟨h3,h4⟩|⟨_,pn,mn,N,piv,a',_,_,e,_,hm,_⟩
  .exact absurd h4.symm h3
  .obtain⟨_,_,s3,s4⟩:=Gm hm;exact⟨s3,fun r hr=>by rw[e];exact(s4 r hr).1⟩
theorem OJ{e1 e2:Int}{aA:Bool}{n n':Int}{tl sl:List Int}{q:Nat}(h:Fb e1 e2 aA n n' tl sl q=0):e1=0/\e2=0/\aA=true/\n=n'/\tl.length=sl.length/\(tl.length:Int)<=n/\Bq tl n=true/\DC tl=false/\D4 q sl=0:=by
 unfold Fb at h;split at h
 .rename_i h1;exact absurd h h1
 rename_i h1;split at h
 .rename_i h2;exact absurd h h2
 rename_i h2;split at h
 .cases h
 rename_i h3;split at h
 .cases h
 rename_i h4;split at h
 .rename_i h5;exact absurd h h5
 rename_i h5;have hi:EU tl n=0:=ac;unfold EU at hi;split at hi
 .cases hi
 rename_i h6;split at hi
 .cases hi
 rename_i h7;refine⟨ac,ac,?_,?_,ac,ac,by cases hr:Bq tl n <;> simp_all,by cases hr:DC tl <;> simp_all,h⟩
 .cases hs:aA with
  | true=>rfl
  | false=>exact absurd (.inl hs) h3
 .by_cases e:n=n'
  .exact e
  .exact absurd (.inr e) h3
def F6(c d:AZ)(tl sl:List Int):(Nat × List Nd) × Int:=Nj c.p.toNat c.m.toNat c.ml c.rows d.rows c.n.toNat (c.n.toNat-tl.length) (0, []) tl sl
def JL(E:Int)(R:(Nat × List Nd) × Int):Int:=if E≠0 then E else if R.2=18 then 0 else if R.2=0 then 11 else R.2
def Iv(E:Int)(R:(Nat × List Nd) × Int):CE:=if E≠0 then⟨[], [],0⟩ else if R.2=18 then⟨(DU R.1.2).tl,(DU R.1.2).sc,0⟩ else⟨[], [],0⟩
def Zs(b:Nat)(M:CE)(e:Int)(r:Ending)(w':World):Prop:=∃u v,r= .returned (.tuple #[.agg #[u,v,.int .i64 M.frob],.int .i64 e])/\Ak w' u M.perm/\Ak w' v M.scale/\(∀X,u.ownBlock=some X->b<=X)/\∀X,v.ownBlock=some X->b<=X
theorem zbI{P:Prop}(h:P:=by
 exact⟨_,_,rfl,AW _,AW _,fun X h=>(by cases h),fun X h=>by cases h⟩):P:=h
theorem bh{P:Prop}(h:P:=by simp[results,Tryz.results122,go_sem,q0,q1,q2]):P:=h
theorem Sb(w:World)(c d:AZ)(m1 m2 v1 v2:Value)(hc:c.at w m1 v1)(hd:d.at w m2 v2)(tl sl:List Int)(tv sv:Value)(ht:Ak w tv tl)(hs:Ak w sv sl):
  Calls Tryz.prog 122 #[c.arg m1 v1,d.arg m2 v2,.agg #[tv,sv]] w fun r w'=>(∃e1 e2:Int,Cm c.p c.m c.ml c.n c.rows e1/\(e1=0->Cm d.p d.m d.ml d.n d.rows e2)/\Zs w.heap.size (Iv (Fb e1 e2 (Cw c.p c.m c.ml d.p d.m d.ml) c.n d.n tl sl (c.p.toNat^c.m.toNat)) (F6 c d tl sl)) (JL (Fb e1 e2 (Cw c.p c.m c.ml d.p d.m d.ml) c.n d.n tl sl (c.p.toNat^c.m.toNat)) (F6 c d tl sl)) r w')/\Ex w w':=by
 obtain⟨c0,c1,c2,c3,c4⟩:=Dv w c m1 v1;obtain⟨d0,d1,d2,d3,d4⟩:=Dv (w.alloc (c.obj m1 v1)) d m2 v2;obtain⟨b0,b1,e3,bT⟩:=AK ((w.alloc (c.obj m1 v1)).alloc (d.obj m2 v2)) tv sv;have aQ:=WD.new (((w.alloc (c.obj m1 v1)).alloc (d.obj m2 v2)).alloc (.cells #[tv,sv] 71));have bU:(w.alloc (c.obj m1 v1)).heap.size=w.heap.size+1:=ag;have bA:((w.alloc (c.obj m1 v1)).alloc (d.obj m2 v2)).heap.size=w.heap.size+1+1:=ag;have e1:=AI w (c.obj m1 v1);have e2:=AI (w.alloc (c.obj m1 v1)) (d.obj m2 v2);have e4:=AI (((w.alloc (c.obj m1 v1)).alloc (d.obj m2 v2)).alloc (.cells #[tv,sv] 71)) (.cells #[.slice none 0 0,.slice none 0 0,.int .i64 0] 26);rw[bT,bA]at aQ;rw[bU]at d0 d1 d2 d3 d4;rw[bA]at b0 b1;have aF:=e1.trans (e2.trans (e3.trans e4));replace c0:=(e2.trans (e3.trans e4)).cell c0;replace c1:=(e2.trans (e3.trans e4)).cell c1;replace c2:=(e2.trans (e3.trans e4)).cell c2;replace c3:=(e2.trans (e3.trans e4)).cell c3;replace c4:=(e2.trans (e3.trans e4)).cell c4;replace d0:=(e3.trans e4).cell d0;replace d1:=(e3.trans e4).cell d1;replace d2:=(e3.trans e4).cell d2;replace d3:=(e3.trans e4).cell d3;replace d4:=(e3.trans e4).cell d4;replace b0:=e4.cell b0;replace b1:=e4.cell b1;obtain⟨B,hB⟩:=nA w.heap.size;rw[hB]at c0 c1 c2 c3 c4 d0 d1 d2 d3 d4 b0 b1 aQ;have aS:=Aa (GY _ c d m1 m2 v1 v2 (hc.ex aF) (hd.ex aF) tl sl tv sv (ht.ex aF) (hs.ex aF));obtain⟨ta,tc,rfl,-,t2,-⟩:=ht.open;obtain⟨sa,sc,rfl,-,s2,-⟩:=hs.open;obtain⟨x1,y1,rfl,-,z1,-⟩:=hc.g.open;obtain⟨x2,y2,rfl,-,z2,-⟩:=hd.g.open;obtain⟨x3,y3,rfl,-,z3,-⟩:=hc.m.open;obtain⟨x4,y4,rfl,-,z4,-⟩:=hd.m.open;unfold maxLen at t2 s2 z1 z2 z3 z4;have HX:=Aa aF;have HC:=Aa hc;have HD:=Aa hd;have HT:=Aa ht;have HS:=Aa hs;have aU:=Aa aQ;have aR:=Aa hB;clear hc hd ht hs e1 e2 e3 e4 bU bA bT aF aQ;unfold AZ.arg at aS ⊢;go_enter Tryz.func122,Tryz.ntmps122
 unfold AZ.obj at c0 c1 c2 c3 c4 d0 d1 d2 d3 d4 b0 b1 HX aU aS;go_upto_region 1 with fail
 try simp only[hB]
 clear hB;generalize (((w.alloc (.cells #[.int .i64 c.p,.int .i64 c.m,.slice x3 c.ml.length y3,.int .i64 c.n,.slice x1 c.rows.length y1] 39)).alloc (.cells #[.int .i64 d.p,.int .i64 d.m,.slice x4 d.ml.length y4,.int .i64 d.n,.slice x2 d.rows.length y2] 39)).alloc (.cells #[.slice ta tl.length tc,.slice sa sl.length sc] 71)).alloc (.cells #[.slice none 0 0,.slice none 0 0,.int .i64 0] 26)=w1 at *;have B0:=Aa b0;have B1:=Aa b1;go_wp2_with fail
 refine aS.o.mono ?_;rintro e w3⟨ho,bW⟩;have cE:=Aa bW;obtain⟨e1,e2,bZ,aK,ho⟩:=ho;have aI:=Aa bZ;have aN:=Aa aK;clear c0 c1 c2 c3 c4 d0 d1 d2 d3 d4 bW bZ aK aS b0 b1;obtain⟨E,hE⟩:=nA (Fb e1 e2 (Cw c.p c.m c.ml d.p d.m d.ml) c.n d.n tl sl (c.p.toNat^c.m.toNat));rw[hE]at ho;have HE:=Aa hE;rcases ho with⟨h0,ptr,rfl⟩|⟨h0,w2,A,b,x0,pn,mn,nn,hp,hm,hnn,rfl,hx2,hg,hx01,hx02,hA,hx23,hpr,h11,hf11⟩
 .have hb0:(E !=0)=true:=by simpa using h0
  obtain⟨q0,q1,q2,aZ,aY,aX⟩:=aU.o.ex cE.o;have H0:=Aa h0;clear h0 hE;go_wp2_with fail
  refine bodyPost_ret (v:= .tuple #[.agg #[.slice none 0 0,.slice none 0 0,.int .i64 0],.int .i64 E]) bh rfl ⟨⟨e1,e2,aI.o,aN.o,?_⟩,AT (HX.o.trans cE.o) (by rw[aR.o];omega) _ _ _⟩;rw[HE.o];unfold Iv JL;rw[if_pos H0.o,if_pos H0.o];exact zbI
 .subst h0;obtain⟨k1,k2,k3,k4,k5,k6,k7,k8,k9⟩:=OJ hE;subst k1;have aK:=aN.o rfl;subst k2;obtain⟨bS,bQ⟩:=CQ aI.o;obtain⟨bR,bP⟩:=CQ aK;obtain⟨-,cQ,cP⟩:=EJ aI.o;obtain⟨NB,aG⟩:∃B,w3.heap.size=B:=⟨_,rfl⟩;have bG:A<NB:=by rw[<-aG];exact World.block_lt_of_cell? _ _ h11
  have aA:=HX.o.trans hx2;have e5:=AI w3 (.cells #[.slice none 0 0,.slice none 0 0] 71);obtain⟨n0,n1,-,-⟩:=AK w3 (.slice none 0 0) (.slice none 0 0);have bO:(w3.alloc (.cells #[.slice none 0 0,.slice none 0 0] 71)).frozen? ⟨NB,0,none⟩=false:=by rw[<-aG];simp
  have bN:(w3.alloc (.cells #[.slice none 0 0,.slice none 0 0] 71)).frozen? ⟨NB,1,none⟩=false:=by rw[<-aG];simp
  rw[aG]at n0 n1;have aP:=Aa (We (p:=pn) (m:=mn) (n:=nn) (A:=A) (NB:=NB) hg hx01 hx02 (HC.o.g.ex aA) (HD.o.g.ex aA) ac (fun r hr=>by have:=bQ r hr;omega) (fun r hr=>by have:=bP r hr;omega) bS bR);have aC:PU w2 A NB b nn (.slice x1 c.rows.length y1) (.slice x2 d.rows.length y2) (0, []) (w3.alloc (.cells #[.slice none 0 0,.slice none 0 0] 71)):=
   ⟨⟨hx23.trans e5,hpr.ex e5,e5.cell h11,e5.frz h11 hf11,ag,ag,hA⟩,ac,ac,⟨_,_,n0,n1,⟨AW _,fun h=>absurd rfl h⟩,⟨AW _,fun h=>absurd rfl h⟩⟩,bO,bN,ae⟩
  have cZ:=Aa aC;have aJ:w1.heap.size<=w2.heap.size:=hx2.size;have bI:=Aa aJ;have aD:∀(v:Value) (l:List Int),Ak w v l->Cu (PX A NB) (w3.alloc (.cells #[.slice none 0 0,.slice none 0 0] 71)) v l:=fun v l h=>by
   have h2:=h.ex aA;have hk:AE (fun _ X=>w2.heap.size<=X) w2 (w3.alloc (.cells #[.slice none 0 0,.slice none 0 0] 71)):=⟨(hx23.trans e5).size,fun X hX hn=>⟨(hx23.trans e5).block X hX,hn⟩⟩;refine⟨(h.ex aA).ex (hx23.trans e5),fun hl X hX hd=>?_⟩;obtain⟨a,cap,rfl,-,-,h5⟩:=h2.open;obtain⟨b',o,rfl,h6⟩:=h5 (List.length_pos_iff.2 hl);injection hX with hX;have hX:b'=X:=hX;subst hX;obtain⟨x,l',rfl⟩:=List.exists_cons_of_ne_nil hl;have hlt:b'<w2.heap.size:=World.block_lt_of_cell? _ _ (h6 0 x rfl);rcases hd with hd|hd <;> omega
  have aT:=Aa (OP aP.o (.pointer (some ⟨NB,0,none⟩)) (fun s w' tl' sl' tv' sv' side msg mv h hl cR cS hm' bE cV hml hne=>T6 h hl cR cS cV bE) (nn-tl.length) (0, []) _ tl sl _ _ ac ac (by rw[<-hnn];exact k7) (fun h=>absurd rfl h) aC (aD _ _ HT.o) (aD _ _ HS.o));have hR:Nj pn mn c.ml c.rows d.rows nn (nn-tl.length) (0, []) tl sl=F6 c d tl sl:=by
   unfold F6;rw[hp,hm,hnn];rfl
  rw[hR]at aT;have q:=aU.o.ex (hx2.trans (hx23.trans e5));have bM:=Aa (aU.o.ex hx2);have b0:=(hx2.trans (hx23.trans e5)).cell B0.o;have b1:=(hx2.trans (hx23.trans e5)).cell B1.o;have bH:=Aa aA;have cG:=Aa (show B+1+1+1<w2.heap.size from World.block_lt_of_cell? _ _ bM.o.c0);clear hp hm hnn hx2 hg hx01 hx02 hA hx23 hpr h11 hf11 k3 k4 k5 k6 k7 k8 k9 aK bS bQ bR bP cQ cP bG aA e5 n0 n1 bO bN aC aJ aD hR aP q hE;obtain⟨R,hR⟩:=nA (F6 c d tl sl);rw[hR]at aT;have dA:=Aa hR;clear hR;go_wp2_with fail
  try simp only[aG]
  generalize w3.alloc (.cells #[.slice none 0 0,.slice none 0 0] 71)=w4 at *;clear aG;refine aT.o.mono ?_;rintro e w5⟨rfl,bF,cU⟩;have bJ:=Aa bF;have aE:=Aa bF.sw.ex;obtain⟨q0,q1,q2,aZ,aY,aX⟩:=bM.o.ex aE.o;have bK:=Aa (show ∀r w',Zs w.heap.size (Iv 0 R) (JL 0 R) r w'->Zs w.heap.size (Iv (Fb 0 0 (Cw c.p c.m c.ml d.p d.m d.ml) c.n d.n tl sl (c.p.toNat^c.m.toNat)) (F6 c d tl sl)) (JL (Fb 0 0 (Cw c.p c.m c.ml d.p d.m d.ml) c.n d.n tl sl (c.p.toNat^c.m.toNat)) (F6 c d tl sl)) r w' from fun r w' h=>by rw[HE.o,dA.o];exact h);clear bF cU b0 b1 aT cZ;obtain⟨E2,aL⟩:∃E,R.2=E:=⟨_,rfl⟩;have bL:=Aa aL;simp only[aL];by_cases h18:E2=18
  .subst h18;obtain⟨aV,aW,n0,n1,bY,bX⟩:=bJ.o.nb;have cT:=bJ.o.ll;have cI:=Aa (fun (w':World) (h:Ex w5 w')=>E9 w' _ aV (bY.1.ex h) ac);have cH:=Aa (fun (w':World) (h:Ex w5 w')=>E9 w' _ aW (bX.1.ex h) ac);have aO:=Aa (show ∀w',Ex w5 w'->w'.cell? ⟨NB,0,none⟩=some aV/\w'.cell? ⟨NB,1,none⟩=some aW from fun w' h=>⟨h.cell n0,h.cell n1⟩);have HQ:=Aa (show ∀w',Ex w5 w'->WD w' (B+1+1+1) from fun w' h=>bM.o.ex (aE.o.trans h));have aB:=Aa (show Iv 0 R=⟨(DU R.1.2).tl,(DU R.1.2).sc,0⟩/\JL 0 R=0 from by
    unfold Iv JL;rw[bL.o];exact⟨rfl,rfl⟩)
   obtain⟨Lt,cC⟩:∃l,(DU R.1.2).tl=l:=⟨_,rfl⟩;obtain⟨Ls,cD⟩:∃l,(DU R.1.2).sc=l:=⟨_,rfl⟩;rw[cC]at cI aB;rw[cD]at cH aB;clear aL bY bX cT cC cD q0 q1 q2 aZ aY aX;go_wp2_with fail
   have G0:Ex w5 w5.drew:=(Ex.refl w5).drew;have aH:=Aa (show B+1+1+1≠NB from by have:=bJ.o.lb;have:=cG.o;omega)
   go_region_held3 (fun w'=>w'.cell? ⟨NB,0,none⟩=some aV/\w'.cell? ⟨NB,1,none⟩=some aW)
    (first|with_reducible exact aO.o _ G0|with_reducible exact aO.o _ X6.o|with_reducible exact aO.o _ X7.o|exact⟨by rw[Ah aH.o,Ah aH.o,Ah aH.o];exact(aO.o _ X7.o).1,by rw[Ah aH.o,Ah aH.o,Ah aH.o];exact(aO.o _ X7.o).2⟩)
    (first|(go_at_call 154;(with_reducible refine(cI.o _ G0).mono ?_);rintro e w6⟨u6,rfl,bD,cB,bV⟩;have cY:=Aa bD;have cK:=Aa cB;obtain⟨cO,cM,rfl,-,-,-⟩:=bD.open;have X6:=Aa (G0.trans bV);clear bV bD cB)|(go_at_call 154;(with_reducible refine(cH.o _ X6.o).mono ?_);rintro e w7⟨u7,rfl,bC,cA,bB⟩;have cX:=Aa bC;have cJ:=Aa cA;obtain⟨cN,cL,rfl,-,-,-⟩:=bC.open;have cW:=Aa bB;have X7:=Aa (X6.o.trans bB);obtain⟨q0,q1,q2,aZ,aY,aX⟩:=HQ.o _ X7.o;clear bB bC cA))
   have cF:=Aa (show B+1+1+1<w5.heap.size from by have:=aE.o.size;have:=cG.o;omega);have aM:=Aa X6.o.size;go_wp2_with fail
   refine bodyPost_ret (v:= .tuple #[.agg #[.slice cO Lt.length cM,.slice cN Ls.length cL,.int .i64 0],.int .i64 0]) bh rfl ⟨⟨0,0,aI.o,fun _=>aN.o trivial,bK.o _ _ ?_⟩,AT ((bH.o.trans aE.o).trans X7.o) (by rw[aR.o];omega) _ _ _⟩;rw[aB.o.1,aB.o.2];have hw5:w.heap.size<=w5.heap.size:=Nat.le_trans (HX.o.trans (Ex.refl _)).size (Nat.le_trans bI.o aE.o.size);refine⟨_,_,rfl,Dq (cY.o.ex cW.o) (fun X hX e=>?_) _ _ _,Dq cX.o (fun X hX e=>?_) _ _ _,fun X hX=>?_,fun X hX=>?_⟩
   .have:=cK.o X hX;have h1:w5.drew.heap.size=w5.heap.size:=rfl;have:=cF.o;omega
   .have:=cJ.o X hX;have:=cF.o;have:=aM.o;omega
   .have:=cK.o X hX;have h1:w5.drew.heap.size=w5.heap.size:=rfl;omega
   .have:=cJ.o X hX;have h1:w5.drew.heap.size=w5.heap.size:=rfl;have:=aM.o;omega
  .have k18:(E2==18)=false:=by simpa using h18
   by_cases h0:E2=0
   .subst h0;have aB:=Aa (show Iv 0 R=⟨[], [],0⟩/\JL 0 R=11 from by
     unfold Iv JL;rw[bL.o];exact⟨rfl,rfl⟩)
    clear aL h18;go_wp2_with fail
    refine bodyPost_ret (v:= .tuple #[.agg #[.slice none 0 0,.slice none 0 0,.int .i64 0],.int .i64 11]) bh rfl ⟨⟨0,0,aI.o,fun _=>aN.o trivial,bK.o _ _ ?_⟩,AT (bH.o.trans aE.o) (by rw[aR.o];omega) _ _ _⟩;rw[aB.o.1,aB.o.2];exact zbI
   .have k0:(E2==0)=false:=by simpa using h0
    have aB:=Aa (show Iv 0 R=⟨[], [],0⟩/\JL 0 R=E2 from by
     unfold Iv JL;rw[bL.o];simp[h18,h0])
    clear aL h18 h0;go_wp2_with fail
    refine bodyPost_ret (v:= .tuple #[.agg #[.slice none 0 0,.slice none 0 0,.int .i64 0],.int .i64 E2]) bh rfl ⟨⟨0,0,aI.o,fun _=>aN.o trivial,bK.o _ _ ?_⟩,AT (bH.o.trans aE.o) (by rw[aR.o];omega) _ _ _⟩;rw[aB.o.1,aB.o.2];exact zbI
end
end Go.Proofs.YtehieobniamagaaGreat
