/- Walk of codewrightref31.Check. -/
import Derived.Test.YtehieobniamagaaGreatZa14
namespace Go.Proofs.YtehieobniamagaaGreat
open Go.RowKit
set_option linter.all false
set_option maxRecDepth 100000
set_option maxHeartbeats 4000000
theorem Wn(p m:Int)(ml:List Int):BY p m ml=0∨BY p m ml=1:=by
 unfold BY;split
 .exact .inl rfl
 .exact .inr rfl
theorem zby{P:Prop}(h:P:=by
 go_wp2_with (go_at_call 97;refine aB.o.mono ?_;rintro e w3⟨rfl,rfl⟩)
 go_ret;exact⟨Ag HE.o.symm,HX.o.trans aA.o⟩):P:=h
theorem zcy{P:Prop}(h:P:=by
 go_wp2_with fail
 go_ret;exact⟨Ag HR.o.symm,HX.o.trans aA.o⟩):P:=h
theorem zcz{P:Prop}(h:P:=by
 go_wp2_with fail
 go_ret;exact⟨Ag HE.o.symm,HX.o.trans aA.o⟩):P:=h
theorem Ie(w:World)(p m:Int)(ml:List Int)(mv:Value)(aJ:Aj w mv ml)(n:Int)(pl sl:List Int)(pv sv:Value)(hp:Aj w pv pl)(hs:Aj w sv sl)(fr:Int):
  Calls Tryz.prog 43 #[.agg #[.int .i64 p,.int .i64 m,mv],.int .i64 n,.agg #[pv,sv,.int .i64 fr]] w fun r w'=>r= .returned (.int .i64 (BF p m ml n pl sl fr))/\Ex w w':=by
 obtain⟨a0,a1,a2,ea⟩:=Da w p m mv;obtain⟨b0,b1,b2,eb⟩:=Ay (w.alloc (.cells #[.int .i64 p,.int .i64 m,mv] 24)) pv sv fr;have aP:(w.alloc (.cells #[.int .i64 p,.int .i64 m,mv] 24)).heap.size=w.heap.size+1:=ag;rw[aP]at b0 b1 b2;replace a0:=eb.cell a0;replace a1:=eb.cell a1;replace a2:=eb.cell a2;obtain⟨HX,HM,HP,HS⟩:=Eq (ea.trans eb) aJ hp hs;obtain⟨ma,mc,rfl,-,-,-⟩:=aJ.open;obtain⟨pa,pc,rfl,q1,q2,-⟩:=hp.open;obtain⟨sa,sc,rfl,t1,t2,-⟩:=hs.open;unfold maxLen at q2 t2;obtain⟨M,hM⟩:=nA (BF p m ml n pl sl fr);have aC:=Aa hM;have HC:=Aa (fun (w':World) (h:Ex w w')=>O3 p m ml _ w' (aJ.ex h));rw[hM];obtain⟨B,hB⟩:=nA w.heap.size;rw[hB]at a0 a1 a2 b0 b1 b2;clear aJ hp hs ea eb aP hM;go_enter Tryz.func43,Tryz.ntmps43
 go_upto_region 1 with fail
 try simp only[hB]
 clear hB;generalize (w.alloc (.cells #[.int .i64 p,.int .i64 m,.slice ma ml.length mc] 24)).alloc (.cells #[.slice pa pl.length pc,.slice sa sl.length sc,.int .i64 fr] 26)=w1 at *;have aI:=Aa (fun w' (h:Ex w1 w')=>(⟨h.cell a0,h.cell a1,h.cell a2,h.cell b0,h.cell b1,h.cell b2⟩:_/\_/\_/\_/\_/\_));by_cases hc:BY p m ml=0
 .obtain⟨pn,mn,rfl,rfl,hf,-⟩:=(Cm p m ml).1 hc;have aD:=Aa (HC.o w1 HX.o);rw[hc]at aD;have HF:=Aa hf;have H0:=Aa hc;clear hc hf;go_wp2_with fail
  refine aD.o.mono ?_;rintro e w2⟨rfl,aF⟩;have aA:=Aa aF;clear a0 a1 a2 b0 b1 b2 aF aD;obtain⟨a0,a1,a2,b0,b1,b2⟩:=aI.o w2 aA.o;by_cases hn1:n<1
  .have HR:=Aa (show M=4 from by rw[<-aC.o];unfold BF;rw[H0.o,if_neg ae,if_pos (.inl hn1)]);have k1:decide (n<1)=true:=by simpa using hn1
   exact zcy
  .have k1:decide (n<1)=false:=by simpa using hn1
   by_cases hn2:64<n
   .have HR:=Aa (show M=4 from by rw[<-aC.o];unfold BF;rw[H0.o,if_neg ae,if_pos (.inr hn2)]);have k2:decide (64<n)=true:=by simpa using hn2
    exact zcy
   .have k2:decide (64<n)=false:=by simpa using hn2
    obtain⟨N,rfl⟩:∃N:Nat,n=N:=⟨n.toNat,ac⟩;by_cases aG:pl.length=N
    .have k3:((pl.length:Int) !=(N:Int))=false:=by simp;omega
     by_cases aK:sl.length=N
     .have k4:((sl.length:Int) !=(N:Int))=false:=by simp;omega
      have aM:=Aa (show M=if Bz pl N=false∨fr<0∨(mn:Int)<=fr then 6 else if Dt pl=true then 18 else DS (pn^mn) sl from by
       rw[<-aC.o];unfold BF;rw[H0.o,if_neg ae,if_neg ac,if_neg ac];rfl)
      have HL:=Aa (And.intro aG aK);have aB:=Aa (Ro w2 pl _ (HP.o.ex (HX.o.trans aA.o)) N);clear aG aK;by_cases hr:Bz pl N=true
      .rw[show Mv pl N=0 from by unfold Mv;rw[if_pos hr]]at aB;have HR:=Aa hr;clear hr;by_cases hf1:fr<0
       .have k5:decide (fr<0)=true:=by simpa using hf1
        have HE:=Aa (show M=6 from by rw[aM.o,if_pos (.inr (.inl hf1))]);exact zby
       .have k5:decide (fr<0)=false:=by simpa using hf1
        by_cases hf2:(mn:Int)<=fr
        .have k6:decide ((mn:Int)<=fr)=true:=by simpa using hf2
         have HE:=Aa (show M=6 from by rw[aM.o,if_pos (.inr (.inr hf2))]);exact zby
        .have k6:decide ((mn:Int)<=fr)=false:=by simpa using hf2
         have aQ:=Aa (show M=if Dt pl=true then 18 else DS (pn^mn) sl from by
          rw[aM.o,if_neg];rintro (h|h|h)
          .rw[HR.o]at h;cases h
          .exact hf1 h
          .exact hf2 h)
         have aL:=Aa (OZ w2 pl _ (HP.o.ex (HX.o.trans aA.o)));have aR:=Aa (fun (w':World) (h:Ex w1 w')=>ST (mv:= .slice ma ml.length mc) w' HF.o sl _ (HS.o.ex (HX.o.trans h)));by_cases hd:Dt pl=true
         .rw[hd]at aL;have HE:=Aa (show M=18 from by rw[aQ.o,if_pos hd]);clear hd;go_wp2_with (first|(go_at_call 97;refine aB.o.mono ?_;rintro e w3⟨rfl,rfl⟩)|(go_at_call 98;refine aL.o.mono ?_;rintro e w4⟨rfl,aE⟩;have aH:=Aa aE;clear aE))
          go_ret;exact⟨Ag HE.o.symm,HX.o.trans (aA.o.trans aH.o)⟩
         .have hd:Dt pl=false:=by simpa using hd
          rw[hd]at aL;have HE:=Aa (show M=DS (pn^mn) sl from by rw[aQ.o,hd];rfl);obtain⟨F,hF⟩:=nA (DS (pn^mn) sl);rw[hF]at HE aR;clear hd hF;go_wp2_with (first|(go_at_call 97;refine aB.o.mono ?_;rintro e w3⟨rfl,rfl⟩)|(go_at_call 98;refine aL.o.mono ?_;rintro e w4⟨rfl,aE⟩;have aH:=Aa (aA.o.trans aE);clear aE a0 a1 a2 b0 b1 b2;obtain⟨a0,a1,a2,b0,b1,b2⟩:=aI.o w4 aH.o)|(go_at_call 99;refine(aR.o w4 aH.o).mono ?_;rintro e w5⟨rfl,aN⟩;have aS:=Aa (aH.o.trans aN);clear aN))
          go_ret;exact⟨Ag HE.o.symm,HX.o.trans aS.o⟩
      .have hr:Bz pl N=false:=by simpa using hr
       rw[show Mv pl N=6 from by unfold Mv;rw[hr];rfl]at aB;have HE:=Aa (show M=6 from by rw[aM.o,if_pos (.inl hr)]);clear hr;exact zby
     .have k4:((sl.length:Int) !=(N:Int))=true:=by simp;omega
      have HE:=Aa (show M=3 from by rw[<-aC.o];unfold BF;rw[H0.o,if_neg ae,if_neg ac,if_pos (.inr ac)]);have HL:=Aa (And.intro aG aK);clear aG aK;exact zcz
    .have k3:((pl.length:Int) !=(N:Int))=true:=by simp;omega
     have HE:=Aa (show M=3 from by rw[<-aC.o];unfold BF;rw[H0.o,if_neg ae,if_neg ac,if_pos (.inl ac)]);clear aG;exact zcz
 .have aO:BY p m ml=1:=by rcases Wn p m ml with h|h;exact absurd h hc;exact h
  have aD:=Aa (HC.o w1 HX.o);rw[aO]at aD;have HR:=Aa (show M=1 from by rw[<-aC.o];unfold BF;rw[if_pos hc]);clear hc aO;go_wp2_with fail
  refine aD.o.mono ?_;rintro e w2⟨rfl,aF⟩;have aA:=Aa (HX.o.trans aF);clear aF;go_wp2_with fail
  go_ret;exact⟨Ag HR.o.symm,aA.o⟩
structure WB(w:World)(b:Nat):Prop where
 c0:w.cell? ⟨b,0,none⟩=some (.int .i64 0)
 c1:w.cell? ⟨b,1,none⟩=some (.int .i64 0)
 c2:w.cell? ⟨b,2,none⟩=some (.slice none 0 0)
 c3:w.cell? ⟨b,3,none⟩=some (.int .i64 0)
 c4:w.cell? ⟨b,4,none⟩=some (.slice none 0 0)
 f0:w.frozen? ⟨b,0,none⟩=false
 f1:w.frozen? ⟨b,1,none⟩=false
 f2:w.frozen? ⟨b,2,none⟩=false
 f3:w.frozen? ⟨b,3,none⟩=false
 f4:w.frozen? ⟨b,4,none⟩=false
theorem WB.new(w:World):WB (w.alloc (.cells #[.int .i64 0,.int .i64 0,.slice none 0 0,.int .i64 0,.slice none 0 0] 39)) w.heap.size:=⟨ag,ag,ag,ag,ag,ag,ag,ag,ag,ag⟩
theorem WB.ex{w w':World}{b:Nat}(h:WB w b)(hx:Ex w w'):WB w' b:=⟨hx.cell h.c0,hx.cell h.c1,hx.cell h.c2,hx.cell h.c3,hx.cell h.c4,hx.frz h.c0 h.f0,hx.frz h.c1 h.f1,hx.frz h.c2 h.f2,hx.frz h.c3 h.f3,hx.frz h.c4 h.f4⟩
@[reducible] def Yy(w:World)(q:Nat)(a b c d e:Value):World:=((((w.setCell ⟨q,0,none⟩ a).setCell ⟨q,1,none⟩ b).setCell ⟨q,2,none⟩ c).setCell ⟨q,3,none⟩ d).setCell ⟨q,4,none⟩ e
theorem Dc{w0 w:World}{q:Nat}(hx:Ex w0 w)(hq:w0.heap.size<=q)(a b c d e:Value):Ex w0 (Yy w q a b c d e):=
 ((((hx.setCell (p:=⟨q,0,none⟩) hq _).setCell (p:=⟨q,1,none⟩) hq _).setCell (p:=⟨q,2,none⟩) hq _).setCell (p:=⟨q,3,none⟩) hq _).setCell (p:=⟨q,4,none⟩) hq _
theorem Jc{w:World}{q:Nat}{v:Value}{l:List Int}(h:Aj w v l)(hq:∀B,v.ownBlock=some B->B≠q)(a b c d e:Value):Aj (Yy w q a b c d e) v l:=
 Sl.other (Sl.other (Sl.other (Sl.other (Sl.other h (fun B e=>hq B e) _) (fun B e=>hq B e) _) (fun B e=>hq B e) _) (fun B e=>hq B e) _) (fun B e=>hq B e) _
def OfR(p m:Int)(ml:List Int)(aA:Int)(v:Value)(e:Int)(r:Ending)(w':World)(base:Nat):Prop:=
 (e≠0/\r= .returned (.tuple #[.agg #[.int .i64 0,.int .i64 0,.slice none 0 0,.int .i64 0,.slice none 0 0],.int .i64 e]))∨
 (e=0/\∃v',r= .returned (.tuple #[.agg #[.int .i64 p,.int .i64 m,v',.int .i64 aA,v],.int .i64 0])/\Aj w' v' ml/\∀B,v'.ownBlock=some B->base<=B)
theorem JT(w:World)(p m:Int)(ml:List Int)(mv:Value)(aG:Aj w mv ml)(hn:ml.length<=1000)(aA:Int)(rows:List (List Int))(v:Value)(hv:BT w v rows)(e:Int):
  Calls Tryz.prog 105 #[.agg #[.int .i64 p,.int .i64 m,mv],.agg #[.int .i64 aA,v],.int .i64 e] w fun r w'=>OfR p m ml aA v e r w' w.heap.size/\Ex w w':=by
 obtain⟨g0,g1,g2,e0,aC⟩:=Bc w p m mv;have aV:=Aa (fun (w':World) (h:Ex w w')=>Vt w' p m ml mv (aG.ex h) hn);obtain⟨za,zc,rfl,-,z2,-⟩:=hv.open;unfold maxLen at z2;obtain⟨ma,mc,rfl,-,m2,-⟩:=aG.open;unfold maxLen at m2;obtain⟨xb,aD⟩:=nA w.heap.size;rw[aD]at g0 g1 g2 aC;clear aG hv hn;go_enter Tryz.func105,Tryz.ntmps105
 by_cases h1:e=0
 .subst h1;go_wp2_with fail
  generalize w.alloc (.cells #[.int .i64 p,.int .i64 m,.slice ma ml.length mc] 24)=wA at *;obtain⟨a0,a1,ea⟩:=D3 wA aA (.slice za rows.length zc);have aE:(wA.alloc (.cells #[.int .i64 aA,.slice za rows.length zc] 137)).heap.size=xb+1+1:=by simp[aC]
  rw[aC]at a0 a1;generalize wA.alloc (.cells #[.int .i64 aA,.slice za rows.length zc] 137)=wB at *;have bq:=WB.new wB;rw[aE]at bq;have eb:Ex wB _:=(Ex.refl wB).alloc (.cells #[.int .i64 0,.int .i64 0,.slice none 0 0,.int .i64 0,.slice none 0 0] 39);obtain⟨A0,A1,G0,G1,G2,EB,aU,BQ,HE⟩:=Ha0 a0 a1 (ea.cell g0) (ea.cell g1) (ea.cell g2) eb (show wB.heap.size<=xb+1+1 from Nat.le_of_eq aE) bq ((e0.trans ea).trans eb);have aK:(wB.alloc (.cells #[.int .i64 0,.int .i64 0,.slice none 0 0,.int .i64 0,.slice none 0 0] 39)).heap.size=xb+1+1+1:=by simp[aE]
  generalize wB.alloc (.cells #[.int .i64 0,.int .i64 0,.slice none 0 0,.int .i64 0,.slice none 0 0] 39)=wC at *;clear g0 g1 g2 a0 a1 bq e0 ea eb aE aC;have aS:=Aa aD;have aW:=Aa aK;clear aD aK;have X0:Ex wC wC.drew:=(Ex.refl wC).drew;have aB:=Aa (fun (w':World) (h':Ex wB w')=>(⟨h'.cell G0.o,h'.cell G1.o,h'.cell G2.o,h'.cell A0.o,h'.cell A1.o⟩:w'.cell? ⟨xb,0,none⟩=some (.int .i64 p)/\w'.cell? ⟨xb,1,none⟩=some (.int .i64 m)/\w'.cell? ⟨xb,2,none⟩=some (.slice ma ml.length mc)/\w'.cell? ⟨xb+1,0,none⟩=some (.int .i64 aA)/\w'.cell? ⟨xb+1,1,none⟩=some (.slice za rows.length zc)));have aH:=Aa (fun (w':World) (h':Ex wB w') (a b c d e:Value)=>aB.o _ (Dc h' aU.o a b c d e));have Y0:=Aa (EB.o.trans X0)
  go_region_held3 (fun w'=>w'.cell? ⟨xb,0,none⟩=some (.int .i64 p)/\w'.cell? ⟨xb,1,none⟩=some (.int .i64 m)/\w'.cell? ⟨xb,2,none⟩=some (.slice ma ml.length mc)/\w'.cell? ⟨xb+1,0,none⟩=some (.int .i64 aA)/\w'.cell? ⟨xb+1,1,none⟩=some (.slice za rows.length zc))
   (first|with_reducible exact aB.o _ Y5.o|with_reducible exact aH.o _ Y5.o _ _ _ _ _|with_reducible exact aB.o _ Y0.o)
   (first|(go_at_call 159;(with_reducible refine(aV.o _ (HE.o.trans X0)).mono ?_);rintro e w5⟨v',rfl,aF,aI,h5⟩;have X5:=X0.trans h5;have Y5:=Aa (EB.o.trans X5);obtain⟨q0,q1,q2,q3,q4,aQ,aP,aO,aN,aM⟩:=BQ.o.ex X5;have aT:=Aa aF;have aL:=Aa aI;obtain⟨va,vc,rfl,-,-,-⟩:=aF.open;clear h5 aF aI))
  all_goals
   go_wp2_with fail
   have hsz:wC.drew.heap.size=xb+1+1+1:=aW.o;have hwx:=aS.o;exact bodyPost_ret (v:= .tuple #[.agg #[.int .i64 p,.int .i64 m,.slice va ml.length vc,.int .i64 aA,.slice za rows.length zc],.int .i64 0]) (by simp[results,Tryz.results105,go_sem,q0,q1,q2,q3,q4]) rfl ⟨.inr ⟨rfl,_,rfl,Jc aT.o (fun B h=>by have:=aL.o B h;omega) _ _ _ _ _,fun B h=>by have:=aL.o B h;omega⟩,Dc (HE.o.trans X5) ac _ _ _ _ _⟩
 .have hb:(e !=0)=true:=by simpa using h1
  have HH:=Aa h1;have aJ:=D3 (w.alloc (.cells #[.int .i64 p,.int .i64 m,.slice ma ml.length mc] 24)) aA (.slice za rows.length zc);have aR:((w.alloc (.cells #[.int .i64 p,.int .i64 m,.slice ma ml.length mc] 24)).alloc (.cells #[.int .i64 aA,.slice za rows.length zc] 137)).heap.size=xb+1+1:=by simp[aC]
  have bq:=WB.new ((w.alloc (.cells #[.int .i64 p,.int .i64 m,.slice ma ml.length mc] 24)).alloc (.cells #[.int .i64 aA,.slice za rows.length zc] 137));have HE:=Aa ((e0.trans aJ.2.2).alloc (.cells #[.int .i64 0,.int .i64 0,.slice none 0 0,.int .i64 0,.slice none 0 0] 39));rw[aR]at bq;obtain⟨q0,q1,q2,q3,q4,aQ,aP,aO,aN,aM⟩:=bq;clear h1 aJ g0 g1 g2 e0;go_wp2_with fail
  exact bodyPost_ret (v:= .tuple #[.agg #[.int .i64 0,.int .i64 0,.slice none 0 0,.int .i64 0,.slice none 0 0],.int .i64 e]) (by simp[results,Tryz.results105,go_sem,q0,q1,q2,q3,q4,aD]) rfl ⟨.inl ⟨HH.o,rfl⟩,by first|exact HE.o|exact Dc HE.o ac _ _ _ _ _⟩
def Jr(p m:Int)(ml:List Int)(aA:Int)(rows:List (List Int)):Int:=if Dn p m ml aA rows≠0 then Dn p m ml aA rows else GK aA
def WX(p m:Int)(ml:List Int)(aA:Int)(rows:List (List Int))(b0:Nat)(r:Ending)(w':World):Prop:=
 (Jr p m ml aA rows≠0/\r= .returned (.tuple #[.agg #[.int .i64 0,.int .i64 0,.slice none 0 0,.int .i64 0,.slice none 0 0],.int .i64 (Jr p m ml aA rows)]))∨
 (Jr p m ml aA rows=0/\∃(pn mn N:Nat) (piv:List Nat) (a':Nat->Nat->Int) (rv v':Value),p=pn/\m=mn/\aA=N/\F5 p m ml/\BR (pn^mn) N rows=0/\r= .returned (.tuple #[.agg #[.int .i64 p,.int .i64 m,v',.int .i64 N,rv],.int .i64 0])/\OI pn mn ml N rows.length (AQ rows) a' piv/\Aj w' v' ml/\BT w' rv (AL N piv.length a')/\(∀B,v'.ownBlock=some B->b0<=B)/\∃g blk cap base,b0<=base/\rv= .slice (some ⟨g,0,none⟩) piv.length piv.length/\EM w' base g rows.length N blk cap a' []/\piv.length<=rows.length/\rows.length<=256)
theorem cw{P:Prop}(h:P:=by simp[results,Tryz.results93,go_sem,q0,q1,q2,q3,q4]):P:=h
theorem N5(w:World)(p m:Int)(ml:List Int)(mv:Value)(aG:Aj w mv ml)(hn:ml.length<=1000)(aA:Int)(rows:List (List Int))(v:Value)(hv:BT w v rows)(h0:Dn p m ml aA rows=0->1<=aA):
  Calls Tryz.prog 93 #[.agg #[.int .i64 p,.int .i64 m,mv],.agg #[.int .i64 aA,v]] w fun r w'=>WX p m ml aA rows w.heap.size r w'/\Ex w w':=by
 obtain⟨g0,g1,g2,e0,aH⟩:=Bc w p m mv;have aY:=Aa (fun (w':World) (h:Ex w w')=>Gb w' p m ml mv (aG.ex h) aA rows v (hv.ex h) h0);have aV:=Aa aG;obtain⟨za,zc,rfl,-,z2,-⟩:=hv.open;unfold maxLen at z2;obtain⟨ma,mc,rfl,-,m2,-⟩:=aG.open;unfold maxLen at m2;obtain⟨xb,aL⟩:=nA w.heap.size;rw[aL]at g0 g1 g2 aH;clear aG hv h0;go_enter Tryz.func93,Tryz.ntmps93
 go_wp2_with fail
 generalize w.alloc (.cells #[.int .i64 p,.int .i64 m,.slice ma ml.length mc] 24)=wA at *;obtain⟨a0,a1,ea⟩:=D3 wA aA (.slice za rows.length zc);have aM:(wA.alloc (.cells #[.int .i64 aA,.slice za rows.length zc] 137)).heap.size=xb+1+1:=by simp[aH]
 rw[aH]at a0 a1;generalize wA.alloc (.cells #[.int .i64 aA,.slice za rows.length zc] 137)=wB at *;have bq:=WB.new wB;rw[aM]at bq;have eb:Ex wB _:=(Ex.refl wB).alloc (.cells #[.int .i64 0,.int .i64 0,.slice none 0 0,.int .i64 0,.slice none 0 0] 39);obtain⟨A0,G0,G1,G2,BQ,HE⟩:=To (eb.cell a0) ((ea.trans eb).cell g0) ((ea.trans eb).cell g1) ((ea.trans eb).cell g2) bq ((e0.trans ea).trans eb);have aT:(wB.alloc (.cells #[.int .i64 0,.int .i64 0,.slice none 0 0,.int .i64 0,.slice none 0 0] 39)).heap.size=xb+1+1+1:=by simp[aM]
 generalize wB.alloc (.cells #[.int .i64 0,.int .i64 0,.slice none 0 0,.int .i64 0,.slice none 0 0] 39)=wC at *;have aP:=Aa aT;have aU:=Aa aL;refine(aY.o wC HE.o).mono ?_;clear g0 g1 g2 a0 a1 bq e0 ea eb aM aH aT aL;rintro e w2⟨hc,aD⟩;obtain⟨aI,aZ,bA,A0,G0,G1,G2⟩:=OK (HE.o.trans aD) aD (BQ.o.ex aD) (aD.cell A0.o) (aD.cell G0.o) (aD.cell G1.o) (aD.cell G2.o);clear aD BQ HE aY;rcases hc with⟨hce,pn,mn,N,piv,a',rv,pv,rfl,rfl,rfl,hfb,hmk,rfl,hel,hrv,hpv,g,blk,cap,base,hbase,rfl,hem⟩|⟨hce,rfl⟩
 .have aF:Jr pn mn ml N rows=GK N:=by unfold Jr;rw[if_neg (by simp[hce])]
  have HN:=Aa aF;have aW:=Aa (fun (w':World)=>Jy w' (N:Int));obtain⟨L,hL⟩:=nA (GK N);rw[hL]at HN aW;have aS:=(NX hel).1;have aR:=(Gl hmk).2.2.1;obtain⟨bI,aJ,aE,aN⟩:=Eq hem (show piv.length<=rows.length/\rows.length<=256 from⟨aS,aR⟩) (show xb+1+1<base from by have:=aP.o;omega) (show F5 pn mn ml/\BR (pn^mn) N rows=0/\OI pn mn ml N rows.length (AQ rows) a' piv from⟨hfb,hmk,hel⟩);obtain⟨pa,pc,rfl,-,-,-⟩:=hpv.open;have aB:=Aa ((Ex.refl w2).alloc (.cells #[.int .i64 N,.slice (some ⟨g,0,none⟩) piv.length piv.length] 137));have aO:=Aa (JT _ pn mn ml _ (aV.o.ex (aI.o.trans aB.o)) hn N (AL N piv.length a') _ (hrv.ex aB.o) L);have g0:=aB.o.cell G0.o;have g1:=aB.o.cell G1.o;have g2:=aB.o.cell G2.o;have a0:=aB.o.cell A0.o;have aQ:=Aa (bA.o.ex aB.o);clear aF hL hce hfb hmk hel hrv hpv hbase hem aS aR;go_wp2_with fail
  refine(aW.o _).mono ?_;rintro e w3⟨rfl,bG⟩;subst bG;go_wp2_with fail
  refine aO.o.mono ?_;rintro e w4⟨ho,aC⟩;have X4:=Aa ((aI.o.trans aB.o).trans aC);have bK:=Aa (bI.o.ex (aB.o.trans aC));have hw:=aU.o;obtain⟨q0,q1,q2,q3,q4,bF,bE,bD,bC,bB⟩:=aQ.o.ex aC;clear aC g0 g1 g2 a0;rcases ho with⟨hz,rfl⟩|⟨hz,v',rfl,hv',hb'⟩
  .have aK:=Aa hz;clear hz;go_wp2_with fail
   exact bodyPost_ret (v:= .tuple #[.agg #[.int .i64 0,.int .i64 0,.slice none 0 0,.int .i64 0,.slice none 0 0],.int .i64 L]) cw rfl ⟨.inl ⟨by rw[HN.o];exact aK.o,by rw[HN.o]⟩,Dc X4.o ac _ _ _ _ _⟩
  .subst hz;have HV:=Aa hv';have HB:=Aa (show ∀B,v'.ownBlock=some B->B≠xb+1+1 from fun B h=>by
    have h1:=hb' B h;have h2:=aZ.o.size;have h3:=aP.o;simp at h1;omega)
   have bJ:=Aa (show ∀B,v'.ownBlock=some B->w.heap.size<=B from fun B h=>by
    have h1:=hb' B h;have h2:=aZ.o.size;have h3:=aP.o;simp at h1;omega)
   obtain⟨va,vc,rfl,-,-,-⟩:=hv'.open;clear hv' hb';have aX:=Aa ((((((bK.o.low (A:=⟨xb+1+1,0,none⟩) aE.o (.int .i64 pn)).low (A:=⟨xb+1+1,1,none⟩) aE.o (.int .i64 mn)).low (A:=⟨xb+1+1,2,none⟩) aE.o (.slice va ml.length vc)).low (A:=⟨xb+1+1,3,none⟩) aE.o (.int .i64 N)).low (A:=⟨xb+1+1,4,none⟩) aE.o (.slice (some ⟨g,0,none⟩) piv.length piv.length)));have bH:=Aa (aX.o.msl aJ.o.1 aJ.o.2);go_wp2_with fail
   exact bodyPost_ret (v:= .tuple #[.agg #[.int .i64 pn,.int .i64 mn,.slice va ml.length vc,.int .i64 N,.slice (some ⟨g,0,none⟩) piv.length piv.length],.int .i64 0]) cw rfl ⟨.inr ⟨HN.o,pn,mn,N,piv,a',_,_,rfl,rfl,rfl,aN.o.1,aN.o.2.1,rfl,aN.o.2.2,Jc HV.o HB.o _ _ _ _ _,bH.o,bJ.o,g,blk,cap,base,by have:=aE.o;omega,rfl,aX.o,aJ.o.1,aJ.o.2⟩,Dc X4.o ac _ _ _ _ _⟩
 .have aF:Jr p m ml aA rows=Dn p m ml aA rows:=by unfold Jr;rw[if_pos hce]
  have HN:=Aa aF;obtain⟨E,hE⟩:=nA (Dn p m ml aA rows);rw[hE]at HN hce ⊢;have hb:(E==0)=false:=by simpa using hce
  have aK:=Aa hce;have aB:=Aa ((Ex.refl w2).alloc (.cells #[.int .i64 0,.slice none 0 0] 137));have aO:=Aa (JT _ p m ml _ (aV.o.ex (aI.o.trans aB.o)) hn 0 [] (.slice none 0 0) ⟨[],Sl.nil _ 1,fun i r u h=>by simp at h⟩ E);have g0:=aB.o.cell G0.o;have g1:=aB.o.cell G1.o;have g2:=aB.o.cell G2.o;have aQ:=Aa (bA.o.ex aB.o);clear aF hE hce;go_wp2_with fail
  refine aO.o.mono ?_;rintro e w4⟨ho,aC⟩;rcases ho with⟨_,rfl⟩|⟨h,_⟩
  .obtain⟨q0,q1,q2,q3,q4,bF,bE,bD,bC,bB⟩:=aQ.o.ex aC;have X4:=Aa ((aI.o.trans aB.o).trans aC);have hw:=aU.o;clear aC g0 g1 g2;go_wp2_with fail
   exact bodyPost_ret (v:= .tuple #[.agg #[.int .i64 0,.int .i64 0,.slice none 0 0,.int .i64 0,.slice none 0 0],.int .i64 E]) cw rfl ⟨.inl ⟨by rw[HN.o];exact aK.o,by rw[HN.o]⟩,Dc X4.o ac _ _ _ _ _⟩
  .exact absurd h aK.o
def Dq(S:List (Nat->Nat))(x y:Nat):Prop:=∃f,Gn S f/\f x=y
theorem Dq.refl(S:List (Nat->Nat))(x:Nat):Dq S x x:=⟨DY,.one,rfl⟩
theorem Dq.trans{S:List (Nat->Nat)}{x y z:Nat}(h:Dq S x y)(k:Dq S y z):Dq S x z:=by
 obtain⟨f,hf,rfl⟩:=h;obtain⟨g,hg,rfl⟩:=k;exact⟨_,hf.mul hg,rfl⟩
theorem Dq.symm{n:Nat}{S:List (Nat->Nat)}(hS:∀s∈S,A7 n s){x y:Nat}(h:Dq S x y):Dq S y x:=by
 obtain⟨f,hf,rfl⟩:=h;exact⟨_,hf.inv hS,(hf.isP hS).inv_l x⟩
theorem Dq.of{S:List (Nat->Nat)}{s:Nat->Nat}(h:s∈S)(x:Nat):Dq S x (s x):=⟨s,Gn.of h,rfl⟩
theorem Dq.lt{n:Nat}{S:List (Nat->Nat)}(hS:∀s∈S,A7 n s){x y:Nat}(hx:x<n)(h:Dq S x y):y<n:=by
 obtain⟨f,hf,rfl⟩:=h;exact(hf.isP hS).lt x hx
theorem Dq.closed{S:List (Nat->Nat)}{C:Nat->Prop}(hC:∀s∈S,∀x,C x->C (s x)){x y:Nat}(hx:C x)(h:Dq S x y):C y:=by
 obtain⟨f,hf,rfl⟩:=h
 induction hf with
 | one=>exact hx
 | step _ hs ih=>exact hC _ hs _ ih
def MQ(S:List (Nat->Nat))(i:Nat):Prop:=∀y,Dq S i y->i<=y
open Classical in
noncomputable def S6 (n:Nat) (S:List (Nat->Nat)) (i:Nat):List Nat:=(List.range n).filter fun y=>decide (Dq S i y)
noncomputable def Pb(n:Nat)(S:List (Nat->Nat))(i:Nat):List Int:=(S6 n S i).map fun (y:Nat)=>(y:Int)
open Classical in
noncomputable def CL (n:Nat) (S:List (Nat->Nat)) (m:Nat):List (List Int):=((List.range m).filter fun i=>decide (MQ S i)).map (Pb n S)
open Classical in
theorem Tg {n:Nat} {S:List (Nat->Nat)} {i y:Nat}:y∈S6 n S i↔y<n/\Dq S i y:=by
 unfold S6;rw[List.mem_filter,List.mem_range,decide_eq_true_eq]
theorem S5(n:Nat)(S:List (Nat->Nat))(i:Nat):(S6 n S i).Pairwise (·< ·):=List.Pairwise.filter _ List.pairwise_lt_range
theorem Oh:∀ {l k:List Nat},l.Pairwise (·< ·)->k.Pairwise (·< ·)->(∀x,x∈l↔x∈k)->l=k
 | [], [],_,_,_=>rfl
 | [],b :: k,_,_,h=>absurd ((h b).2 (List.mem_cons_self ..)) (List.not_mem_nil)
 | a :: l, [],_,_,h=>absurd ((h a).1 (List.mem_cons_self ..)) (List.not_mem_nil)
 | a :: l,b :: k,hl,hk,h=>by
  obtain⟨aA,aC⟩:=List.pairwise_cons.1 hl;obtain⟨aB,aD⟩:=List.pairwise_cons.1 hk;have aE:a=b:=by
   rcases List.mem_cons.1 ((h a).1 (List.mem_cons_self ..)) with h1|h1
   .exact h1
   .rcases List.mem_cons.1 ((h b).2 (List.mem_cons_self ..)) with h2|h2
    .exact h2.symm
    .have:=aB a h1;have:=aA b h2;omega
  subst aE
  congr 1
  refine Oh aC aD fun x=>?_;constructor
  .intro hx;rcases List.mem_cons.1 ((h x).1 (List.mem_cons_of_mem _ hx)) with h1|h1
   .have:=aA x hx;omega
   .exact h1
  .intro hx;rcases List.mem_cons.1 ((h x).2 (List.mem_cons_of_mem _ hx)) with h1|h1
   .have:=aB x hx;omega
   .exact h1
theorem Jo(n:Nat)(S:List (Nat->Nat))(m:Nat):(MQ S m->CL n S (m+1)=CL n S m ++ [Pb n S m])/\(¬MQ S m->CL n S (m+1)=CL n S m):=by
 unfold CL;rw[List.range_succ,List.filter_append,List.map_append];constructor
 .intro h;simp[List.filter,h]
 .intro h;simp[List.filter,h]
theorem Rr(n:Nat)(S:List (Nat->Nat))(m:Nat):(CL n S m).length<=m:=by
 unfold CL;rw[List.length_map];exact Nat.le_trans (List.length_filter_le _ _) ag
def E3(S:List (Nat->Nat))(i x:Nat):Prop:=∃y,Dq S x y/\y<i
theorem Gd{S:List (Nat->Nat)}{i:Nat}:E3 S i i↔¬MQ S i:=by
 constructor
 .rintro⟨y,h1,h2⟩ h3;have:=h3 y h1;omega
 .intro h;apply Classical.byContradiction;intro h2;refine h fun y hy=>?_;apply Classical.byContradiction;intro h3;exact h2 ⟨y,hy,ac⟩
theorem Je{n:Nat}{S:List (Nat->Nat)}(hS:∀s∈S,A7 n s){i x:Nat}:E3 S (i+1) x↔E3 S i x∨Dq S i x:=by
 constructor
 .rintro⟨y,h1,h2⟩;by_cases h:y<i
  .exact .inl ⟨y,h1,h⟩
  .have:y=i:=by omega
   subst this;exact .inr (h1.symm hS)
 .rintro (⟨y,h1,h2⟩|h)
  .exact⟨y,h1,ac⟩
  .exact⟨i,h.symm hS,ac⟩
theorem SE{n:Nat}{S:List (Nat->Nat)}(hS:∀s∈S,A7 n s){i x:Nat}(h:¬MQ S i):E3 S (i+1) x↔E3 S i x:=by
 rw[Je hS];constructor
 .rintro (h1|h1)
  .exact h1
  .obtain⟨y,h2,h3⟩:=Gd.2 h;exact⟨y,(h1.symm hS).trans h2,h3⟩
 .exact .inl
structure DU(n:Nat)(S:List (Nat->Nat))(i:Nat)(q:List Nat)(k g:Nat):Prop where
 pos:q[0]?=some i
 nd:q.Nodup
 rch:∀x∈q,Dq S i x
 old:∀j x s,j<k->q[j]?=some x->s∈S->s x∈q
 cur:∀j x s,j<g->q[k]?=some x->S[j]?=some s->s x∈q
theorem DU.lt{n:Nat}{S:List (Nat->Nat)}(hS:∀s∈S,A7 n s){i:Nat}{q:List Nat}{k g:Nat}(hi:i<n)(h:DU n S i q k g):∀x∈q,x<n:=fun x hx=>(h.rch x hx).lt hS hi
theorem Ry{q:List Nat}(aA:q.Nodup){i j:Nat}(hi:i<q.length)(hj:j<q.length)(e:q[i]=q[j]):i=j:=by
 have h:=List.pairwise_iff_getElem.1 (List.nodup_iff_pairwise_ne.1 aA);rcases Nat.lt_trichotomy i j with h1|h1|h1
 .exact absurd e (h i j hi hj h1)
 .exact h1
 .exact absurd e.symm (h j i hj hi h1)
theorem Rx:∀(n:Nat) (q:List Nat),q.Nodup->(∀x∈q,x<n)->q.length<=n:=by
 intro n q aB aC;apply Classical.byContradiction;intro hn;have aA:∀i,i<n+1->q.getD i 0<n:=fun i hi=>by
  rw[List.getD_eq_getElem?_getD,List.getElem?_eq_getElem ac];exact aC _ (List.getElem_mem _)
 obtain⟨x,hx,e⟩:=Dh (n+1) (fun i=>q.getD i 0) (fun i hi=>by have:=aA i hi;omega) (fun i j hi hj e=>by
  simp only[List.getD_eq_getElem?_getD]at e;rw[List.getElem?_eq_getElem ac,List.getElem?_eq_getElem ac]at e;injection (show some q[i]=some q[j] from congrArg some e) with e;exact Ry aB ac ac e) n ac
 have:=aA x hx;omega
theorem DU.len{n:Nat}{S:List (Nat->Nat)}(hS:∀s∈S,A7 n s){i:Nat}{q:List Nat}{k g:Nat}(hi:i<n)(h:DU n S i q k g):1<=q.length/\q.length<=n:=
 ⟨by have:=(List.getElem?_eq_some_iff.1 h.pos).1;omega,Rx n q h.nd (h.lt hS hi)⟩
theorem DU.start(n:Nat)(S:List (Nat->Nat))(i:Nat):DU n S i [i] 0 0:=
 ⟨rfl,ag,fun x hx=>by rw[List.mem_singleton.1 hx];exact .refl _ _,fun j x s h=>ac,fun j x s h=>ac⟩
theorem DU.hit{n:Nat}{S:List (Nat->Nat)}{i:Nat}{q:List Nat}{k g x:Nat}{s:Nat->Nat}(h:DU n S i q k g)(hx:q[k]?=some x)(hs:S[g]?=some s)(hm:s x∈q):DU n S i q k (g+1):=
 ⟨h.pos,h.nd,h.rch,h.old,fun j y t hj hy ht=>by
  by_cases e:j=g
  .subst e;rw[hs]at ht;injection ht with ht;rw[hx]at hy;injection hy with hy;subst ht hy;exact hm
  .exact h.cur j y t ac hy ht⟩
theorem DU.new{n:Nat}{S:List (Nat->Nat)}{i:Nat}{q:List Nat}{k g x:Nat}{s:Nat->Nat}(h:DU n S i q k g)(hx:q[k]?=some x)(hs:S[g]?=some s)(hm:¬s x∈q):DU n S i (q ++ [s x]) k (g+1):=by
 have hk:=(List.getElem?_eq_some_iff.1 hx).1;have h0:=(List.getElem?_eq_some_iff.1 h.pos).1;refine⟨by rw[List.getElem?_append_left ac];exact h.pos,?_,fun y hy=>?_,fun j y t hj hy ht=>?_,fun j y t hj hy ht=>?_⟩
 .rw[List.nodup_append];exact⟨h.nd,ag,fun a ha b hb e=>by rw[List.mem_singleton.1 hb]at e;subst e;exact hm ha⟩
 .rcases List.mem_append.1 hy with h1|h1
  .exact h.rch y h1
  .rw[List.mem_singleton.1 h1];exact(h.rch x (List.mem_of_getElem? hx)).trans (.of (List.mem_of_getElem? hs) x)
 .rw[List.getElem?_append_left ac]at hy;exact List.mem_append_left _ (h.old j y t hj hy ht)
 .rw[List.getElem?_append_left hk]at hy;by_cases e:j=g
  .subst e;rw[hs]at ht;injection ht with ht;rw[hx]at hy;injection hy with hy;subst ht hy;simp
  .exact List.mem_append_left _ (h.cur j y t ac hy ht)
theorem DU.next{n:Nat}{S:List (Nat->Nat)}{i:Nat}{q:List Nat}{k g:Nat}(h:DU n S i q k g)(hg:S.length<=g):DU n S i q (k+1) 0:=
 ⟨h.pos,h.nd,h.rch,fun j y t hj hy ht=>by
  by_cases e:j=k
  .subst e;obtain⟨m,hm,e2⟩:=List.getElem_of_mem ht;exact h.cur m y t ac hy (by rw[List.getElem?_eq_getElem hm,e2])
  .exact h.old j y t ac hy ht,fun j y t hj=>ac⟩
theorem DU.fin{n:Nat}{S:List (Nat->Nat)}{i:Nat}{q:List Nat}{k g:Nat}(h:DU n S i q k g)(hk:q.length<=k)(y:Nat):y∈q↔Dq S i y:=by
 refine⟨h.rch y,fun hr=>?_⟩;refine Dq.closed (C:=fun x=>x∈q) (fun s hs x hx=>?_) (List.mem_of_getElem? h.pos) hr;obtain⟨j,hj,e⟩:=List.getElem_of_mem hx;exact h.old j x s ac au hs
theorem DU.seen{n:Nat}{S:List (Nat->Nat)}{i:Nat}{q:List Nat}{k g x:Nat}{s:Nat->Nat}(hl:MQ S i)(h:DU n S i q k g)(hx:q[k]?=some x)(hs:S[g]?=some s)(hm:E3 S i (s x)∨s x∈q):s x∈q:=by
 rcases hm with⟨y,h1,h2⟩|h1
 .have:=hl y (((h.rch x (List.mem_of_getElem? hx)).trans (.of (List.mem_of_getElem? hs) x)).trans h1);omega
 .exact h1
end Go.Proofs.YtehieobniamagaaGreat
