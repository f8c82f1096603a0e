/- Walks of the package field: shape, New. -/
import Derived.Test.YtehieobniamagaaGreatZc01
namespace Go.Proofs.YtehieobniamagaaGreat
open Go.RowKit
set_option linter.all false
set_option maxRecDepth 100000
set_option maxHeartbeats 4000000
def KT(p m:Int)(ml:List Int):Bool:=
 decide (CG p m≠0)&&(Jl p.toNat&&if m=1 then ml.length==0 else ml.length==m.toNat&&ml.all fun x=>decide (0<=x)&&decide (x<p))
theorem Oj{p m:Int}(h:CG p m≠0):∃pn mn:Nat,p=pn/\m=mn/\2<=pn/\1<=mn/\mn<=8/\pn^mn<=256/\CG p m=((pn^mn:Nat):Int):=by
 unfold CG at h ⊢;split at h
 .rename_i hc;obtain⟨h1,h2,h3,h4⟩:=hc;obtain⟨pn,rfl⟩:=Int.eq_ofNat_of_zero_le (show 0<=p by omega);obtain⟨mn,rfl⟩:=Int.eq_ofNat_of_zero_le (show 0<=m by omega);rw[Int.toNat_natCast,<-Int.natCast_pow]at h4;refine⟨pn,mn,rfl,rfl,ac,ac,ac,ac,?_⟩;rw[if_pos ⟨h1,h2,h3,by rw[Int.toNat_natCast,<-Int.natCast_pow];exact h4⟩,Int.toNat_natCast,Int.natCast_pow]
 .exact absurd rfl h
theorem N5{p m:Int}{ml:List Int}(h:KT p m ml=true):∃pn mn:Nat,p=pn/\m=mn/\Hh pn mn ml/\Jl pn=true/\CG p m=((pn^mn:Nat):Int):=by
 unfold KT at h;simp only[Bool.and_eq_true,decide_eq_true_eq]at h;obtain⟨h1,h2,h3⟩:=h;obtain⟨pn,mn,rfl,rfl,a,b,c,d,e⟩:=Oj h1;refine⟨pn,mn,rfl,rfl,⟨a,b,c,d,?_,?_⟩,by simpa using h2,e⟩
 .split at h3
  .rename_i hm;rw[if_pos ac];simpa using h3
  .rename_i hm;simp only[Bool.and_eq_true,beq_iff_eq]at h3;rw[if_neg ac,h3.1];simp
 .intro x hx;split at h3
  .have:ml= []:=List.eq_nil_of_length_eq_zero (by simpa using h3);subst this;cases hx
  .simp only[Bool.and_eq_true,List.all_eq_true,decide_eq_true_eq]at h3;exact h3.2 x hx
theorem zbB{P:Prop}(h:P:=by
 unfold CG;rw[if_pos ⟨by omega,by omega,by omega,by rw[Int.toNat_natCast,<-Int.natCast_pow];omega⟩,Int.toNat_natCast,Int.natCast_pow]):P:=h
theorem Un{pn mn:Nat}{ml:List Int}(h:Hh pn mn ml)(hp:Jl pn=true):KT pn mn ml=true/\CG pn mn=((pn^mn:Nat):Int):=by
 obtain⟨a,b,c,d,e,f⟩:=h;have ho:CG pn mn=((pn^mn:Nat):Int):=by
  exact zbB
 refine⟨?_,ho⟩;have hq:1<=pn^mn:=Nat.pow_pos ac;unfold KT;simp only[Bool.and_eq_true,decide_eq_true_eq];refine⟨by rw[ho];omega,by simpa using hp,?_⟩;by_cases h1:mn=1
 .rw[if_pos ac];rw[if_pos h1]at e;simp[e]
 .rw[if_neg ac];rw[if_neg h1]at e;simp only[Bool.and_eq_true,List.all_eq_true,decide_eq_true_eq];exact⟨by simp[e],f⟩
theorem zcc{P:Prop}(h:P:=by
 have h1:pn^1<=pn^mn:=Nat.pow_le_pow_right (by omega) q1;rw[Nat.pow_one]at h1;omega):P:=h
theorem au{P:Prop}(h:P:=by rw[List.getElem?_eq_getElem hi,e]):P:=h
theorem di{P:Prop}(h:P:=by rw[<-aC];simp):P:=h
theorem Nj(p m:Int)(ml:List Int)(mv:Value)(w:World)(aO:Aj w mv ml):
  Calls Tryz.prog 111 #[.agg #[p,m,mv]] w fun r w'=>r= .returned (.bool (KT p m ml))/\Ex w w':=by
 obtain⟨xb,aC⟩:=nA w.heap.size;have d0:(w.alloc (.cells #[p,m,mv] 24)).cell? (xb,0)=some (.int .i64 p):=di;have d1:(w.alloc (.cells #[p,m,mv] 24)).cell? (xb,1)=some (.int .i64 m):=di;have d2:(w.alloc (.cells #[p,m,mv] 24)).cell? (xb,2)=some mv:=di;have e0:Ex w (w.alloc (.cells #[p,m,mv] 24)):=(Ex.refl _).alloc _;have aI:=Aa (show KT p m ml=(decide (CG p m≠0)&&(Jl p.toNat&&if m=1 then ml.length==0 else ml.length==m.toNat&&ml.all fun x=>decide (0<=x)&&decide (x<p))) from rfl);have aM:=aO.ex e0;obtain⟨ma,mc,rfl,m1,m2,m3⟩:=aM.open;have M3:=Aa m3;have DX:=Jn p m;unfold maxLen at m2;clear aO aM m3;by_cases ho:CG p m=0
 .rw[ho]at aI DX;clear ho;obtain⟨aB,D0,D1,D2⟩:=Eq DX d0 d1 d2;clear DX d0 d1 d2;go_enter Tryz.func111,Tryz.ntmps111
  have d0:=D0.o;have d1:=D1.o;have d2:=D2.o;go_wp2_with fail
  clear aC;generalize w.alloc (.cells #[p,m,.slice ma ml.length mc] 24)=w1 at *;clear D0 D1 D2;refine(aB.o _).mono ?_;rintro e w2⟨rfl,rfl⟩;go_wp2_with fail
  go_ret;exact⟨Aq (by rw[aI.o];simp),e0⟩
 .obtain⟨pn,mn,rfl,rfl,p2,q1,q8,qq,aN⟩:=Oj ho;have hpw:1<=pn^mn:=Nat.pow_pos ac;have aF:pn<=256:=by
   exact zcc
  rw[aN]at DX;have hb0:(((pn^mn:Nat):Int)==0)=false:=by rw[beq_eq_false_iff_ne];omega
  have aA:=Aa (show KT pn mn ml=(Jl pn&&if (mn:Int)=1 then ml.length==0 else ml.length==mn&&ml.all fun x=>decide (0<=x)&&decide (x<pn)) by
   rw[aI.o,decide_eq_true ho];simp)
  have aD:=fun w=>Qm pn w p2 aF;generalize pn^mn=qn at *;clear ho aN aI;by_cases hpr:Jl pn=true
  .rw[hpr]at aA aD;have aH:=Aa aD;clear aD hpr;by_cases hm1:mn=1
   .have aL:((mn:Int)==1)=true:=by simp;omega
    have HR:=Aa (show KT pn mn ml=((ml.length:Int)==0) by rw[aA.o,if_pos ac,Bool.true_and,Bool.eq_iff_iff];simp);clear hm1 aA;obtain⟨aB,D0,D1,D2⟩:=Eq DX d0 d1 d2;clear DX d0 d1 d2;go_enter Tryz.func111,Tryz.ntmps111
    have d0:=D0.o;have d1:=D1.o;have d2:=D2.o;go_wp2_with fail
    clear aC;generalize w.alloc (.cells #[pn,mn,.slice ma ml.length mc] 24)=w1 at *;clear D0 D1 D2;refine(aB.o _).mono ?_;rintro e w2⟨rfl,rfl⟩;go_wp2_with fail
    refine(aH.o _).mono ?_;rintro e w2⟨rfl,rfl⟩;go_wp2_with fail
    go_ret;exact⟨Aq (by rw[HR.o]),e0⟩
   .have aL:((mn:Int)==1)=false:=by simp;omega
    have HR:=Aa (show KT pn mn ml=(ml.length==mn&&ml.all fun x=>decide (0<=x)&&decide (x<pn)) by rw[aA.o,if_neg ac,Bool.true_and]);clear hm1 aA;by_cases hlen:ml.length=mn
    .have aQ:((ml.length:Int)==(mn:Int))=true:=by simp;omega
     have aP:((ml.length:Int) !=(mn:Int))=false:=aq;have aJ:=Aa (show KT pn mn ml=ml.all fun x=>decide (0<=x)&&decide (x<pn) by rw[HR.o,show(ml.length==mn)=true by simp[hlen],Bool.true_and]);clear hlen HR;obtain⟨aB,D0,D1,D2⟩:=Eq DX d0 d1 d2;clear DX d0 d1 d2;go_enter Tryz.func111,Tryz.ntmps111
     have d0:=D0.o;have d1:=D1.o;have d2:=D2.o;go_wp2_with fail
     clear aC;generalize w.alloc (.cells #[pn,mn,.slice ma ml.length mc] 24)=w1 at *;clear D0 D1 D2;refine(aB.o _).mono ?_;rintro e w2⟨rfl,rfl⟩;go_wp2_with fail
     refine(aH.o _).mono ?_;rintro e w2⟨rfl,rfl⟩;go_wp2_with fail
     go_loopw [4,33] (fun _ j' wr=>∃j:Nat,j<=ml.length/\j'= .int .i64 j/\Hia (∀i y,i<j->ml[i]?=some y->0<=y/\y<pn)/\w1=wr) (fun _ j' _=>ml.length-(intOf j').toNat)
     case atStart=>exact⟨0,ac,rfl,Aa (fun i y h=>ac),rfl⟩
     case round=>
      obtain⟨j,hj,rfl,aG,rfl⟩:=hrel;by_cases hlt:j<ml.length
      .obtain⟨y,hy⟩:∃y,ml[j]?=some y:=⟨_,List.getElem?_eq_getElem hlt⟩;obtain⟨b,o,rfl,hc⟩:=M3.o ac;have c1:=hc j y hy;by_cases hy0:0<=y/\y<pn
       .have HA:=Aa (show ∀i z,i<j+1->ml[i]?=some z->0<=z/\z<pn from fun i z hi hz=>by
         by_cases e:i=j
         .subst e;rw[hy]at hz;injection hz with hz;subst hz;exact hy0
         .exact aG.o i z ac hz)
        obtain⟨y0,y1⟩:=hy0;clear hc hy;go_wp2_with fail
        go_roundw
        case rel=>exact⟨j+1,ac,by go_num,HA,by first|trivial|rfl⟩
        case measure=>simp[intOf];omega
       .have HF:=Aa (show KT pn mn ml=false by
         rw[aJ.o,List.all_eq_false];refine⟨y,List.mem_of_getElem? hy,?_⟩;simpa using hy0)
        have aK:y<0∨(0<=y/\(pn:Int)<=y):=ac;clear hc hy hy0;rcases aK with aK|⟨aK,hy2⟩
        all_goals
         go_wp2_with fail
         go_ret;exact⟨Aq HF.o.symm,e0⟩
      .obtain rfl:j=ml.length:=by omega
       have HT:=Aa (show KT pn mn ml=true by
        rw[aJ.o,List.all_eq_true];intro y hy;obtain⟨i,hi,e⟩:=List.getElem_of_mem hy;have:=aG.o i y hi au;simp[this])
       go_wp2_with fail
       go_ret;exact⟨Aq HT.o.symm,e0⟩
    .have aQ:((ml.length:Int)==(mn:Int))=false:=by simp;omega
     have aP:((ml.length:Int) !=(mn:Int))=true:=aq;have aJ:=Aa (show KT pn mn ml=false by rw[HR.o,show(ml.length==mn)=false by simp[hlen],Bool.false_and]);clear hlen HR;obtain⟨aB,D0,D1,D2⟩:=Eq DX d0 d1 d2;clear DX d0 d1 d2;go_enter Tryz.func111,Tryz.ntmps111
     have d0:=D0.o;have d1:=D1.o;have d2:=D2.o;go_wp2_with fail
     clear aC;generalize w.alloc (.cells #[pn,mn,.slice ma ml.length mc] 24)=w1 at *;clear D0 D1 D2;refine(aB.o _).mono ?_;rintro e w2⟨rfl,rfl⟩;go_wp2_with fail
     refine(aH.o _).mono ?_;rintro e w2⟨rfl,rfl⟩;go_wp2_with fail
     go_ret;exact⟨Aq aJ.o.symm,e0⟩
  .have aE:Jl pn=false:=by simpa using hpr
   rw[aE]at aA aD;have aH:=Aa aD;clear aD hpr aE;obtain⟨aB,D0,D1,D2⟩:=Eq DX d0 d1 d2;clear DX d0 d1 d2;go_enter Tryz.func111,Tryz.ntmps111
   have d0:=D0.o;have d1:=D1.o;have d2:=D2.o;go_wp2_with fail
   clear aC;generalize w.alloc (.cells #[pn,mn,.slice ma ml.length mc] 24)=w1 at *;clear D0 D1 D2;refine(aB.o _).mono ?_;rintro e w2⟨rfl,rfl⟩;go_wp2_with fail
   refine(aH.o _).mono ?_;rintro e w2⟨rfl,rfl⟩;go_wp2_with fail
   go_ret;exact⟨Aq (by rw[aA.o];simp),e0⟩
structure Bj(w:World)(b:Nat)(p m:Nat)(ml:List Int)(x:Nat):Prop where
 sh:Hh p m ml
 pr:Jl p=true
 gen:De p m (lw ml) x
 c0:w.cell? (b,0)=some (.int .i64 p)
 c1:w.cell? (b,1)=some (.int .i64 m)
 c2:∃v,w.cell? (b,2)=some v/\Aj w v ml
 c3:w.cell? (b,3)=some (.int .i64 ((p^m:Nat):Int))
 c4:∃v,w.cell? (b,4)=some v/\Aj w v (il (p^m-1) (Lf p m ml x))
 c5:∃v f,w.cell? (b,5)=some v/\Aj w v (il (p^m) f)/\∀k,k<p^m-1->f (BO p m (lw ml) x k)=k
theorem Bj.ex{w w':World}{b p m:Nat}{ml:List Int}{x:Nat}(h:Bj w b p m ml x)(hx:Ex w w'):Bj w' b p m ml x:=by
 obtain⟨a1,a2,a3,c0,c1,⟨v2,c2,s2⟩,c3,⟨v4,c4,s4⟩,⟨v5,f,c5,s5,hf⟩⟩:=h;exact⟨a1,a2,a3,hx.cell c0,hx.cell c1,⟨v2,hx.cell c2,s2.ex hx⟩,hx.cell c3,⟨v4,hx.cell c4,s4.ex hx⟩,⟨v5,f,hx.cell c5,s5.ex hx,hf⟩⟩
def FP(p m:Int)(ml:List Int):Prop:=∃pn mn:Nat,p=pn/\m=mn/\Hh pn mn ml/\Jl pn=true/\Hr pn mn (lw ml)
structure FinS(w3 wz:World)(b g q:Nat)(e:TypeId)(c0 c1 c2 c3 c4 c5:Value)(ml:List Int):Prop where
 f0:wz.cell? (b,0)=some c0
 f1:wz.cell? (b,1)=some c1
 f2:wz.cell? (b,2)=some c2
 f3:wz.cell? (b,3)=some c3
 f4:wz.cell? (b,4)=some c4
 f5:wz.cell? (b,5)=some c5
 isl:Aj wz c2 ml
 own:AF wz w3.heap.size e g q (iv fun _=>0)
 ex:Ex w3 wz
 lt:g<b
 off:∀B,c2.ownBlock=some B->B≠g
theorem Sl.other{w:World}{v:Value}{n size:Nat}{xs:List Value}(h:Sl w v n size xs){a:Addr}(ha:∀B,v.ownBlock=some B->B≠a.block)(u:Value):Sl (w.setCell a u) v n size xs:=by
 obtain⟨h1,c,cap,rfl,h3,h4,h5⟩:=h;refine⟨h1,c,cap,rfl,h3,h4,fun hn=>?_⟩;obtain⟨b,o,rfl,h6⟩:=h5 hn;refine⟨b,o,rfl,fun j x hx=>?_⟩;rw[World.cell?_setCell_other _ _ _ _ (by
   intro e;have:a.block=b:=cw;exact ha b rfl this.symm)]
 exact h6 j x hx
theorem Sb{w3 W:World}{g q:Nat}{e t:TypeId}{c0 c1 c2 c3 c4 c5:Value}{ml:List Int}(h1:Aj W c2 ml)(h2:AF W w3.heap.size e g q (iv fun _=>0))(h3:Ex w3 W)(h4:∀B,c2.ownBlock=some B->B≠g):
  FinS w3 (W.alloc (.cells #[c0,c1,c2,c3,c4,c5] t)) W.heap.size g q e c0 c1 c2 c3 c4 c5 ml:=
 ⟨ag,ag,ag,ag,ag,ag,h1.ex ((Ex.refl _).alloc _),h2.alloc _,h3.alloc _,h2.lt.2,h4⟩
theorem P0{w w':World}{b b0:Nat}{e:TypeId}{g n:Nat}{c:Nat->Value}(h:AF w b e g n c)(hg:w.grownBy w' (Value.slice (some (b0,0)) 0 0).ownBlock)(aA:g≠b0):AF w' b e g n c:=
 World.ownsRow.kept h hg (.inr (by simpa[Value.ownBlock]using aA))
theorem Km{w:World}{b:Nat}{e:TypeId}{v:Value}{ml:List Int}(h:w.ownsRow b e 1 v (0+ml.length) ([]++Ap ml)):Aj w v ml:=by
 rw[Nat.zero_add,List.nil_append]at h;exact Sl.own h
def NewOut(p m:Int)(ml:List Int)(w':World)(r:Ending):Prop:=
 (∃(pn mn x b:Nat),p=pn/\m=mn/\r= .returned (.tuple #[.pointer (some (b,0)),(0:Int)])/\Bj w' b pn mn ml x/\1<=x/\x<pn^mn)∨
 (¬FP p m ml/\r= .returned (.tuple #[.pointer none,(1:Int)]))
theorem dp{P:Prop}(h:P:=by rw[<-aL];simp):P:=h
theorem dq{P:Prop}(h:P:=by rw[Nat.zero_add];exact h):P:=h
theorem Gf(p m:Int)(ml:List Int)(mv:Value)(w:World)(bA:Aj w mv ml):
  Calls Tryz.prog 52 #[.agg #[p,m,mv]] w fun r w'=>NewOut p m ml w' r/\Ex w w':=by
 obtain⟨xb,aL⟩:=nA w.heap.size;have d0:(w.alloc (.cells #[p,m,mv] 24)).cell? (xb,0)=some (.int .i64 p):=dp;have d1:(w.alloc (.cells #[p,m,mv] 24)).cell? (xb,1)=some (.int .i64 m):=dp;have d2:(w.alloc (.cells #[p,m,mv] 24)).cell? (xb,2)=some mv:=dp;have e0:Ex w (w.alloc (.cells #[p,m,mv] 24)):=(Ex.refl _).alloc _;have aR:=Aa bA;have aS:=Aa (fun w' (h:Aj w' mv ml)=>Nj p m ml mv w' h);have aG:=Jn p m;have D0:=Aa d0;have D1:=Aa d1;have D2:=Aa d2;clear d0 d1 d2 bA;by_cases hs:KT p m ml=true
 .obtain⟨pn,mn,rfl,rfl,hf,aZ,ho⟩:=N5 hs;rw[ho]at aG;rw[hs]at aS;have bF:=Aa aG;have HF:=Aa hf;have bO:=Aa aZ;have hq:=hf.q;have bE:=Aa (Bw hf.p2 hf.m1);have bH:=Aa (fun w' (h:Aj w' mv ml)=>Hw pn mn ml mv w' hf h);have bG:=Aa (show ∀w' v,Pg pn mn ml w' v↔((∃x,1<=x/\x<pn^mn/\De pn mn (lw ml) x/\Aj w' v (il (pn^mn-1) (Lf pn mn ml x)))∨(¬Hr pn mn (lw ml)/\v= .slice none 0 0)) from fun _ _=>Iff.rfl);clear aG hf aZ ho hs;obtain⟨q,aN⟩:=nA (pn^mn);simp only[aN]at hq bF bE bH bG;have aK:=Aa aN;have hq1:1<q:=by rw[<-aN];exact Bw HF.o.p2 HF.o.m1
  have hpq:pn<=q/\mn<=8:=⟨by rw[<-aN];have:=Nat.pow_le_pow_right (show 0<pn by have:=HF.o.p2;omega) HF.o.m1;rwa[Nat.pow_one]at this,HF.o.m8⟩;clear aN;go_enter Tryz.func52,Tryz.ntmps52
  have d0:=D0.o;have d1:=D1.o;have d2:=D2.o;go_wp2_with fail
  clear aL D0 D1 D2;generalize w.alloc (.cells #[pn,mn,mv] 24)=w1 at *;refine(aS.o _ (aR.o.ex e0)).mono ?_;rintro e w2⟨rfl,aI⟩;have r0:=aI.cell d0;have r1:=aI.cell d1;have r2:=aI.cell d2;have e2:=e0.trans aI;clear d0 d1 d2 e0 aI;go_wp2_with fail
  refine(bF.o _).mono ?_;rintro e w3⟨rfl,rfl⟩;go_wp2_with fail
  refine(bH.o _ (aR.o.ex e2)).mono ?_;rintro e w3⟨gv,rfl,aU,aM⟩;have s0:=aM.cell r0;have s1:=aM.cell r1;have s2:=aM.cell r2;have e3:=e2.trans aM;clear r0 r1 r2 e2 aM;rcases (bG.o _ _).1 aU with⟨x,x1,x2,hgx,hgv⟩|⟨hno,rfl⟩
  .obtain⟨ga,gc,rfl,g1,g2,g3⟩:=hgv.open;obtain⟨gb,aF,rfl,g4⟩:=g3 (by rw[Ao];have:=bE.o;omega);rw[Ao]at *;have hE:=fun w=>AP (P:=Tryz.prog) w 22 3 (some ⟨gb,aF,none⟩) (q-1) gc Tryz.underlying22;have hqi:1<=(q:Int):=by omega
   go_wp2_with fail
   have aT:=Aa (aR.o.ex e3);have hln:ml.length<=8:=by
    have h1:=HF.o.len;have h2:=HF.o.m8;split at h1 <;> omega
   have k0:0<q:=ac
   go_region_held3 (fun w'=>w'.cell? (xb,0)=some (.int .i64 pn)/\w'.cell? (xb,1)=some (.int .i64 mn)/\w'.cell? (xb,2)=some mv/\Ex w w')
    (first
          | exact⟨s0,s1,s2,e3.drew⟩
          | exact⟨aB.cell s0,aB.cell s1,aB.cell s2,e3.trans aB⟩
          | exact⟨aB.cell s0,aB.cell s1,aB.cell s2,e3.drew.trans aB⟩
          | exact⟨(aH.trans aB).cell s0,(aH.trans aB).cell s1,(aH.trans aB).cell s2,e3.drew.trans (aH.trans aB)⟩
          | exact⟨(((Ex.refl w3).alloc (.cells #[] 3)).drew).cell s0,(((Ex.refl w3).alloc (.cells #[] 3)).drew).cell s1,(((Ex.refl w3).alloc (.cells #[] 3)).drew).cell s2,e3.trans (((Ex.refl w3).alloc (.cells #[] 3)).drew)⟩
          | (obtain⟨k0,k1,k2,k3⟩:=‹_/\_/\_/\Ex w _›;exact⟨aB.cell k0,aB.cell k1,aB.cell k2,k3.trans aB⟩)
          | (obtain⟨k0,k1,k2,k3⟩:=‹_/\_/\_/\Ex w _›;exact⟨((Ex.refl _).alloc _).cell k0,((Ex.refl _).alloc _).cell k1,((Ex.refl _).alloc _).cell k2,k3.trans ((Ex.refl _).alloc _)⟩))
    ((first
          | (refine Cq br _ _ _ br _ 3 (.int .i64 0) 1 8 Tryz.underlying22 Az rfl ae _ 0 [] br (Ai (Bv _ _) (by first|exact Ex.refl _|exact(Ex.refl _).drew|exact aB|exact Ex.trans (Ex.refl _).drew aB)) _ ml.length (Ap ml) br (aR.o.ex (by first|exact(e3.alloc _).drew|exact(e3.drew.alloc _)|assumption|exact(‹_/\_/\_/\Ex w _›).2.2.2)) (by intro u hu;obtain⟨z,_,rfl⟩:=List.mem_map.1 hu;rfl) ai ac (by first|(simp;done)|omega|exact Nat.le_trans ag aB.size) ?_;intro v8 w8 aC aP bK;obtain⟨va,aA,bI⟩:=Ad aC;subst bI;first|(have aB:=Ex.grown ((Ex.refl _).alloc _).drew (Bv _ _).drew (Nat.le_refl _) aP)|(have aB:=Ex.grown (((Ex.refl _).alloc _).drew.trans aB) (Ai (Bv _ _) ((Ex.refl _).drew.trans aB)) (Nat.le_refl _) aP)|(have aB:=Ex.grown ((Ex.refl _).alloc _) (Bv _ _) (Nat.le_refl _) aP))
          | (refine Fj 22 3 (.int .i64 0) 8 Tryz.underlying22 Az rfl q ac ai ?_;intro w6 aD aB;have aH:=aB;go_simp)))
   all_goals
    first
        | (have FN:FinS w3 (w6.alloc (.cells #[.int .i64 pn,.int .i64 mn,.slice va ml.length aA,.int .i64 q,.slice (some ⟨gb,aF,none⟩) (q-1) gc,.slice (some ⟨w8.heap.size,0,none⟩) q q] 164)) w6.heap.size w8.heap.size q 3 (.int .i64 pn) (.int .i64 mn) (.slice va ml.length aA) (.int .i64 q) (.slice (some ⟨gb,aF,none⟩) (q-1) gc) (.slice (some ⟨w8.heap.size,0,none⟩) q q) ml:=Sb ((by have:=Km aC;rwa[Nat.zero_add]at this:Aj w8 (.slice va ml.length aA) ml).ex aH) (aD.mono (‹Ex w3 w8›).size) ((‹Ex w3 w8›).trans aH) (fun B h=>Nat.ne_of_lt (aC.lt B dq).2)
           generalize w6.alloc (.cells #[pn,mn,.slice va ml.length aA,q,.slice (some (gb,aF)) (q-1) gc,.slice (some (w8.heap.size,0)) q q] 164)=wz at FN ⊢;generalize w6.heap.size=b at FN ⊢;generalize w8.heap.size=g at FN ⊢)
        | (have FN:FinS w3 (w8.alloc (.cells #[.int .i64 pn,.int .i64 mn,.slice va ml.length aA,.int .i64 q,.slice (some ⟨gb,aF,none⟩) (q-1) gc,.slice (some ⟨w3.heap.size,0,none⟩) q q] 164)) w8.heap.size w3.heap.size q 3 (.int .i64 pn) (.int .i64 mn) (.slice va ml.length aA) (.int .i64 q) (.slice (some ⟨gb,aF,none⟩) (q-1) gc) (.slice (some ⟨w3.heap.size,0,none⟩) q q) ml:=Sb (by have:=Km aC;rwa[Nat.zero_add]at this:Aj w8 (.slice va ml.length aA) ml) (P0 (AF.alloc (show AF w6 w3.heap.size 3 w3.heap.size q (iv fun _=>0) from aD) _) aP (Nat.ne_of_lt aD.lt.2)) ((Ex.refl w3).drew.trans (aH.trans aB)) (fun B h=>Nat.ne_of_gt (Nat.lt_of_lt_of_le aD.lt.2 (aC.lt B dq).1))
           generalize w8.alloc (.cells #[pn,mn,.slice va ml.length aA,q,.slice (some (gb,aF)) (q-1) gc,.slice (some (w3.heap.size,0)) q q] 164)=wz at FN ⊢;generalize w8.heap.size=b at FN ⊢;generalize w3.heap.size=g at FN ⊢)
        | (have FN:FinS w3 (w8.alloc (.cells #[.int .i64 pn,.int .i64 mn,.slice va ml.length aA,.int .i64 q,.slice (some ⟨gb,aF,none⟩) (q-1) gc,.slice (some ⟨(w3.heap.size+1),0,none⟩) q q] 164)) w8.heap.size (w3.heap.size+1) q 3 (.int .i64 pn) (.int .i64 mn) (.slice va ml.length aA) (.int .i64 q) (.slice (some ⟨gb,aF,none⟩) (q-1) gc) (.slice (some ⟨(w3.heap.size+1),0,none⟩) q q) ml:=Sb (by have:=Km aC;rwa[Nat.zero_add]at this:Aj w8 (.slice va ml.length aA) ml) (P0 (show AF w6 w3.heap.size 3 (w3.heap.size+1) q (fun _=> .int .i64 0) by have:=aD.mono (b':=w3.heap.size) ag;simpa using this) aP ac) aB (fun B h=>by
            have hs6:w3.heap.size+1<w6.heap.size:=by have:=aD.lt.2;simpa using this
            have h':(Value.slice va (0+ml.length) aA).ownBlock=some B:=dq;rcases bK with e|e
            .rw[e]at h';injection h' with h';have h':w3.heap.size=B:=h';omega
            .rw[e]at h';injection h' with h';omega)
           generalize w8.alloc (.cells #[pn,mn,.slice va ml.length aA,q,.slice (some (gb,aF)) (q-1) gc,.slice (some ((w3.heap.size+1),0)) q q] 164)=wz at FN ⊢;generalize w8.heap.size=b at FN ⊢;generalize (w3.heap.size+1)=g at FN ⊢)
   all_goals
    have FF:=Aa FN;obtain⟨f0,f1,f2,f3,f4,f5,fi,fo,fe,fl,aQ⟩:=FN;obtain⟨aV,bU,G4,bT,bP,bR,bS⟩:=OK aQ fi g4 hgv (fun k=>(by rw[<-aK.o];exact Dn HF.o.p2 HF.o.m1 x k:BO pn mn (lw ml) x k<q)) (show ∀i j,j<q-1->i<j->BO pn mn (lw ml) x i≠BO pn mn (lw ml) x j from fun i j hj bJ=>hgx.inj HF.o.p2 HF.o.m1 (by rw[aK.o];exact hj) bJ) hgx;have bB:w3.heap.size<=g:=fo.lt.1;have HWG:=Aa bB;have bV:=Aa e3;clear aU hgx hgv g4 fi e3 bB s0 s1 s2 aT aQ;go_wp2_with fail
    go_loopw [7,8,39] (fun _ _ j' wr=>∃(j:Nat) (f:Nat->Int),j<=q-1/\j'= .int .i64 j/\Hia (AF wr w3.heap.size 3 g q (iv f))/\Hia (∀i,i<j->f (BO pn mn (lw ml) x i)=i)/\Hia (∀k u,wz.cell? ⟨b,k,none⟩=some u->wr.cell? ⟨b,k,none⟩=some u)/\Hia (Aj wr (.slice va ml.length aA) ml)/\Ex w3 wr) (fun _ _ j' _=>q-(intOf j').toNat)
    case atStart=>exact⟨0,fun _=>0,ac,rfl,Aa fo,Aa (fun i h=>ac),Aa (fun k u h=>h),bU,fe⟩
    case round=>
     clear fo fe;obtain⟨j,f,hj,rfl,aE,bC,aJ,aO,hx⟩:=hrel;have b5:=aJ.o 5 _ f5;by_cases hlt:j<q-1
     .have hc:=hx.cell (G4.o j _ (AQ hlt _));have aX:=bP.o j;have HY:=Aa (show Lf pn mn ml x j=((BO pn mn (lw ml) x j:Nat):Int) from rfl);rw[HY.o]at hc;obtain⟨y,hy⟩:=nA (BO pn mn (lw ml) x j);have bD:=Aa hy;rw[hy]at hc aX;have hcy:=aE.o.cell aX;have hfy:=aE.o.frz y;have HS:=Aa (aE.o.set y (.int .i64 j));have bN:=Aa (aE.o.exSet (Nat.le_refl _) hx y (.int .i64 j));have bW:=Aa (show ∀k u,wz.cell? ⟨b,k,none⟩=some u->(wr.setCell (g,y) (.int .i64 j)).cell? ⟨b,k,none⟩=some u from fun k u h=>by
       rw[World.cell?_setCell_other _ _ _ _ (by intro e;injection e;omega)];exact aJ.o k u h)
      have bQ:=Aa (show Aj (wr.setCell (g,y) (.int .i64 j)) (.slice va ml.length aA) ml from Sl.other aO.o (fun B h=>aV.o B h) _);clear hy;go_wp2_with fail
      go_roundw
      case rel=>
       refine⟨j+1,Ay f y j,ac,by go_num,Aa (by have:=HS.o;rwa[CD]at this),Aa (fun i hi=>?_),bW,bQ,bN.o⟩;by_cases e:i=j
       .subst e;rw[bD.o,Ab]
       .rw[Ae _ _ (fun h=>bR.o i j hlt ac (h.trans bD.o.symm))];exact bC.o i ac
      case measure=>simp[intOf];omega
     .have hjq:j=q-1:=by omega
      have HR:Hia (Bj wr b pn mn ml x):=Aa ⟨HF.o,bO.o,bS.o,aJ.o 0 _ f0,aJ.o 1 _ f1,⟨_,aJ.o 2 _ f2,aO.o⟩,by rw[aK.o];exact aJ.o 3 _ f3,
       ⟨_,aJ.o 4 _ f4,by rw[aK.o];exact bT.o.ex hx⟩,⟨_,f,b5,by rw[aK.o];exact aE.o.isl,fun k hk=>bC.o k (by rw[aK.o]at hk;omega)⟩⟩
      clear hlt b5;go_wp2_with fail
      go_ret2;exact⟨.inl ⟨pn,mn,x,b,rfl,rfl,rfl,HR.o,x1,by rw[aK.o];exact x2⟩,bV.o.trans hx⟩
  .have aW:=Aa (show ¬FP pn mn ml from fun ⟨a,b,e1,e2,_,_,h⟩=>by
    have bM:pn=a:=ac;have bL:mn=b:=ac;subst bM;subst bL;exact hno h)
   clear aU hno;have hE:=fun w=>AP (P:=Tryz.prog) w 22 3 none 0 0 Tryz.underlying22;go_wp2_with fail
   go_ret2;exact⟨.inr ⟨aW.o,rfl⟩,e3⟩
 .have aY:KT p m ml=false:=by simpa using hs
  have aW:=Aa (show ¬FP p m ml from fun ⟨a,b,e1,e2,h1,h2,_⟩=>by
   rw[e1,e2]at hs;exact hs (Un h1 h2).1)
  rw[aY]at aS;clear hs aY aG;go_enter Tryz.func52,Tryz.ntmps52
  have d0:=D0.o;have d1:=D1.o;have d2:=D2.o;go_wp2_with fail
  clear aL D0 D1 D2;generalize w.alloc (.cells #[p,m,mv] 24)=w1 at *;refine(aS.o _ (aR.o.ex e0)).mono ?_;rintro e w2⟨rfl,aI⟩;go_wp2_with fail
  go_ret2;exact⟨.inr ⟨aW.o,rfl⟩,e0.trans aI⟩
def Qt(w:World)(v:Value)(r:Ending)(w':World):Prop:=r= .returned v/\∃n,w'=w.drewN n
def Av(q:Nat)(x:Int):Nat:=if 0<=x/\x<q then x.toNat else 0
theorem Cc{q:Nat}(hq:1<=q)(x:Int):Av q x<q:=by
 unfold Av;split <;> omega
theorem AA{q:Nat}{x:Nat}(h:x<q):Av q x=x:=by
 unfold Av;rw[if_pos ac];rfl
def Gt(q:Nat)(x:Int):Bool:=decide (0<=x/\x<q)
theorem Mg{p:Nat}{v:Vc}{k:Nat}(h:∀j,k<=j->v j=0):∀n,k<=n->EJ p n v=EJ p k v
 | 0,hk=>by
   obtain rfl:k=0:=ac;rfl
 | n+1,hk=>by
  rcases Nat.eq_or_lt_of_le hk with e|e
  .rw[e]
  .simp only[EJ];rw[Mg h n ac,h n ac];simp
theorem Qk{p:Nat}(hp:1<=p)(m x y:Nat):((AH p m x y:Nat):Int)=EJ p m (fun j=>(AK p m x j+AK p m y j)%(p:Int)):=by
 unfold AH rep;rw[Int.toNat_of_nonneg (Di (fun j=>⟨Int.emod_nonneg _ ac,Int.emod_lt_of_pos _ ac⟩) m).1]
theorem Qj{p:Nat}(hp:1<=p)(m x:Nat):((CI p m x:Nat):Int)=EJ p m (fun j=>((p:Int)-AK p m x j)%(p:Int)):=by
 unfold CI rep;rw[Int.toNat_of_nonneg (Di (fun j=>⟨Int.emod_nonneg _ ac,Int.emod_lt_of_pos _ ac⟩) m).1];refine DY m fun j _=>?_;exact Cy.2 ⟨-1,by grind⟩
theorem O3{p m x k:Nat}(hk:k<m):AK p m x k=((x/p^k%p:Nat):Int):=by unfold AK;rw[if_pos hk]
theorem Mc{p m x k:Nat}(h:x/p^k=0)(hp:1<=p){j:Nat}(hj:k<=j):AK p m x j=0:=by
 unfold AK;split
 .obtain⟨c,rfl⟩:∃c,j=k+c:=⟨j-k,ac⟩;rw[Nat.pow_add,<-Nat.div_div_eq_div_mul,h,Nat.zero_div];simp
 .rfl
section
variable {b p m x0:Nat} {ml:List Int}
theorem Pd(w:World)(hg:Bj w b p m ml x0)(x:Int):
  Calls Tryz.prog 199 #[.pointer (some (b,0)),x] w (Qt w (.bool (Gt (p^m) x))):=by
 have c3:=hg.c3;have HB:=Aa (show Gt (p^m) x=decide (0<=x/\x<((p^m:Nat):Int)) from rfl);generalize p^m=q at *;clear hg;by_cases h0:0<=x
 .go_enter Tryz.func199,Tryz.ntmps199
  go_wp2
  go_ret;exact⟨Aq (by rw[HB.o];simp[h0]),0,rfl⟩
 .go_enter Tryz.func199,Tryz.ntmps199
  go_wp2
  go_ret;exact⟨Aq (by rw[HB.o];simp;omega),0,rfl⟩
theorem zbo{P:Prop}(h:P:=by
 generalize p^m=q at *;clear hg h;go_enter Tryz.func160,Tryz.ntmps160
 go_wp2_with fail
 refine HI.o.mono ?_;rintro e w1⟨rfl,n,rfl⟩;go_wp2_with fail
 go_ret;exact⟨Af HK.o.symm,n,rfl⟩):P:=h
theorem Ik(w:World)(hg:Bj w b p m ml x0)(x:Int):
  Calls Tryz.prog 160 #[.pointer (some (b,0)),x] w (Qt w (.int .i64 (Av (p^m) x:Nat))):=by
 have HI:=Aa (Pd w hg x);by_cases h:0<=x/\x<((p^m:Nat):Int)
 .have HK:=Aa (show((Av (p^m) x:Nat):Int)=x by unfold Av;rw[if_pos h];omega);rw[show Gt (p^m) x=true from decide_eq_true h]at HI;exact zbo
 .have HK:=Aa (show((Av (p^m) x:Nat):Int)=0 by unfold Av;rw[if_neg h];rfl);rw[show Gt (p^m) x=false from decide_eq_false h]at HI;exact zbo
theorem Bj.drewN{w:World}(h:Bj w b p m ml x0)(n:Nat):Bj (w.drewN n) b p m ml x0:=h.ex ((Ex.refl w).drewN n)
theorem zbX{P:Prop}(h:P:=by
 have:=Int.mul_le_mul (show D<=256 by omega) (show(pk:Int)<=256 by omega) (by omega) (by omega);omega):P:=h
theorem Pa(w:World)(hg:Bj w b p m ml x0)(x:Int):
  Calls Tryz.prog 158 #[.pointer (some (b,0)),x] w (Qt w (.int .i64 (CI p m (Av (p^m) x):Nat))):=by
 have HI:=Aa (Ik w hg x);have c0:=hg.c0;have p2:=hg.sh.p2;have m1:=hg.sh.m1;have m8:=hg.sh.m8;have hq:=hg.sh.q;have p256:=hg.sh.p256;have hz:Av (p^m) x<p^m:=Cc (Nat.pow_pos ac) x;generalize Av (p^m) x=z at *;have HK:=Aa (Qj (show 1<=p by omega) m z);have aD:=Aa (show ∀k,k<m->EJ p (k+1) (fun j=>((p:Int)-AK p m z j)%(p:Int))=EJ p k (fun j=>((p:Int)-AK p m z j)%(p:Int))+((p:Int)-((z/p^k%p:Nat):Int))%(p:Int)*((p^k:Nat):Int) from fun k hk=>by
  simp only[EJ];rw[O3 hk])
 have HR:=Aa (fun k=>Di (v:=fun j=>((p:Int)-AK p m z j)%(p:Int)) (fun j=>⟨Int.emod_nonneg _ ac,Int.emod_lt_of_pos _ ac⟩) k);have HE:=Aa (show ∀k,k<=m->z/p^k=0->((CI p m z:Nat):Int)=EJ p k (fun j=>((p:Int)-AK p m z j)%(p:Int)) from fun k hk h=>by
  rw[HK.o];refine Mg (fun j hj=>?_) m hk;rw[Mc h ac hj];simp)
 obtain⟨aE,HM,HD,aL⟩:=Eq (show ∀k,k<=m->p^k<=256 from fun k hk=>Nat.le_trans (Nat.pow_le_pow_right ac hk) hq) (show ∀k,m<=k->z/p^k=0 from fun k hk=>Nat.div_eq_of_lt (Nat.lt_of_lt_of_le hz (Nat.pow_le_pow_right ac hk))) (show ∀k,z/p^(k+1)=z/p^k/p from fun k=>by rw[Nat.pow_succ,Nat.div_div_eq_div_mul]) (fun k=>Nat.pow_succ p k);have z256:z<256:=by omega
 have aO:=Aa c0;clear hg c0 HK;obtain⟨C,hC⟩:∃C:Nat->Int,(fun k=>EJ p k (fun j=>((p:Int)-AK p m z j)%(p:Int)))=C:=⟨_,rfl⟩;have aC:∀k,EJ p k (fun j=>((p:Int)-AK p m z j)%(p:Int))=C k:=fun k=>congrFun hC k;simp only[aC]at aD HR HE;have aN:=Aa (show C 0=0 by rw[<-aC];rfl);clear hC aC hz;go_enter Tryz.func158,Tryz.ntmps158
 go_wp2_with fail
 refine HI.o.mono ?_;rintro e w1⟨rfl,n0,rfl⟩;go_wp2_with fail
 go_loopw [1,5,6] (fun z' o' q' wr=>∃k n:Nat,k<=m/\z'= .int .i64 ((z/p^k:Nat):Int)/\o'= .int .i64 (C k)/\q'= .int .i64 ((p^k:Nat):Int)/\wr=w.drewN n) (fun _ _ q' _=>300-(intOf q').toNat)
 case atStart=>exact⟨0,n0,ac,ag,by rw[aN.o],ag,rfl⟩
 case round=>
  obtain⟨k,n,hk,rfl,rfl,rfl,rfl⟩:=hrel;have hdz:z/p^k<=z:=Nat.div_le_self _ _;have hpl:=aE.o k hk;have hpp:1<=p^k:=Nat.pow_pos ac;obtain⟨r1,r2⟩:=HR.o k;obtain⟨HS,aH,aG,aM,aF⟩:=Of (aD.o k) (HE.o k hk) (HM.o k) (HD.o k) (aL.o k);have r0:=aO.o;generalize z/p^k=y at *;generalize p^k=pk at *;by_cases hy:y=0
  .subst hy;have HF:=Aa (aH.o rfl);go_wp2_with fail
   go_ret;exact⟨Af HF.o.symm,n,rfl⟩
  .have aB:k<m:=by
    rcases Nat.lt_or_ge k m with h|h
    .exact h
    .exact absurd (aG.o h) hy
   have aK:=Aa (HS.o aB);have aA:=aE.o (k+1) aB;rw[aF.o]at aA;have aI:0<y:=ac;have hym:=Nat.mod_lt y (show 0<p by omega);have HYD:=Aa (Nat.div_lt_self aI (show 1<p by omega));have aJ:=Aa (It y p ac);have i1:(y:Int).tmod (p:Int)=((y%p:Nat):Int):=by rw[Int.tmod_eq_emod_of_nonneg ac];rfl
   generalize y%p=u at *;have d1:=Int.emod_nonneg ((p:Int)-u) (show(p:Int)≠0 by omega);have d2:=Int.emod_lt_of_pos ((p:Int)-u) (show 0<(p:Int) by omega);have i3:((p:Int)-u).tmod (p:Int)=((p:Int)-u)%(p:Int):=Int.tmod_eq_emod_of_nonneg ac;generalize ((p:Int)-u)%(p:Int)=D at *;have d3:0<=D*(pk:Int):=Int.mul_nonneg d1 ac;have d4:D*(pk:Int)<=65536:=by
    exact zbX
   have d5:(pk:Int)*(p:Int)=((pk*p:Nat):Int):=ag;have d6:0<=(pk:Int)*(p:Int):=ac;have d7:(pk:Int)*(p:Int)<=256:=ac;have p0:¬p=0:=ac;have i2:IntKind.i64.wrap ((p:Int)-u)=(p:Int)-u:=IntWalk.i64_in _ ac;have i4:IntKind.i64.wrap (D*(pk:Int))=D*(pk:Int):=IntWalk.i64_in _ ac;have i5:IntKind.i64.wrap (C k+D*(pk:Int))=C k+D*(pk:Int):=IntWalk.i64_in _ ac;clear HS aH aG hy;have D5:=Aa d5;have D8:=Aa (show(pk:Int)<(pk:Int)*(p:Int) by rw[d5];have:=Nat.mul_le_mul_left pk p2;omega);clear d5;go_wp2_with fail
   go_quiet (fail)
   clear i1 i2 i3 i4 i5;go_wp2_with fail
   go_roundw
   case rel=>exact⟨k+1,_,aB,by rw[aM.o,<-aJ.o],by rw[aK.o],by rw[aF.o,D5.o],rfl⟩
   case measure=>have h1:=D8.o;simp[intOf];omega
theorem OZ{m z j:Nat}(hj:j<m):AK 2 m z j=if z.testBit j then 1 else 0:=by
 rw[O3 hj,Nat.testBit_eq_decide_div_mod_eq];have:z/2^j%2=0∨z/2^j%2=1:=ac;rcases this with h|h <;> simp[h]
theorem WZ{m x y:Nat}(hx:x<2^m)(hy:y<2^m):AH 2 m x y=x ^^^ y:=by
 have hz:x ^^^ y<2^m:=Nat.xor_lt_two_pow hx hy;unfold AH;rw[<-Kf (m:=m) (show 1<=2 by omega) hz];refine Fv fun j=>?_;by_cases hj:j<m
 .rw[OZ hj,OZ hj,OZ hj,Nat.testBit_xor];cases x.testBit j <;> cases y.testBit j <;> rfl
 .rw[Bq 2 m x j ac,Bq 2 m y j ac,Bq 2 m _ j ac];rfl
theorem zcz{P:Prop}(h:P:=by
 rw[BitVec.ofInt_natCast,BitVec.toNat_ofNat];exact Nat.mod_eq_of_lt (by omega)):P:=h
theorem YD{x y:Nat}(hx:x<2^62)(hy:y<2^62):bits BinOp.xor IntKind.i64 (x:Int) (y:Int)=((x ^^^ y:Nat):Int):=by
 have hz:x ^^^ y<2^62:=Nat.xor_lt_two_pow hx hy;have h1:(BitVec.ofInt 64 (x:Int)).toNat=x:=by
  exact zcz
 have h2:(BitVec.ofInt 64 (y:Int)).toNat=y:=by
  exact zcz
 show IntKind.i64.wrap ((BitVec.ofInt 64 (x:Int) ^^^ BitVec.ofInt 64 (y:Int)).toNat:Int)=_
 rw[BitVec.toNat_xor,h1,h2,IntWalk.i64_in _ ac]
theorem KB(w:World)(hg:Bj w b p m ml x0)(x y:Int):
  Calls Tryz.prog 163 #[.pointer (some (b,0)),x,y] w (Qt w (.int .i64 (AH p m (Av (p^m) x) (Av (p^m) y):Nat))):=by
 have HI:=Aa (fun n x=>Ik (w.drewN n) (hg.drewN n) x);have aN:=Aa (Ik w hg x);have c0:=hg.c0;have p2:=hg.sh.p2;have m1:=hg.sh.m1;have m8:=hg.sh.m8;have hq:=hg.sh.q;have p256:=hg.sh.p256;have hz:Av (p^m) x<p^m:=Cc (Nat.pow_pos ac) x;have ht:Av (p^m) y<p^m:=Cc (Nat.pow_pos ac) y;have aM:=Aa (fun n=>HI.o n y);clear HI;generalize Av (p^m) x=z at *;generalize Av (p^m) y=s at *;have z256:z<256:=bu;have s256:s<256:=ac;have aF:=Aa c0;by_cases h2:p=2
 .subst h2;have HX:=Aa (WZ hz ht);have HB:=Aa (YD (x:=z) (y:=s) ac ac);clear hg c0 hz ht hq;go_enter Tryz.func163,Tryz.ntmps163
  go_wp2_with fail
  refine aN.o.mono ?_;rintro e w1⟨rfl,n0,rfl⟩;go_wp2_with fail
  refine(aM.o n0).mono ?_;rintro e w1⟨rfl,n1,rfl⟩;have c0:=aF.o;go_wp2_with fail
  go_ret;exact⟨Af (by rw[HX.o,<-HB.o]),_,rfl⟩
 .have HK:=Aa (Qk (show 1<=p by omega) m z s);have aI:=Aa (show ∀k,k<m->EJ p (k+1) (fun j=>(AK p m z j+AK p m s j)%(p:Int))=EJ p k (fun j=>(AK p m z j+AK p m s j)%(p:Int))+(((z/p^k%p:Nat):Int)+((s/p^k%p:Nat):Int))%(p:Int)*((p^k:Nat):Int) from fun k hk=>by
   simp only[EJ];rw[O3 hk,O3 hk])
  have HR:=Aa (fun k=>Di (v:=fun j=>(AK p m z j+AK p m s j)%(p:Int)) (fun j=>⟨Int.emod_nonneg _ ac,Int.emod_lt_of_pos _ ac⟩) k);have HE:=Aa (show ∀k,k<=m->z/p^k=0->s/p^k=0->((AH p m z s:Nat):Int)=EJ p k (fun j=>(AK p m z j+AK p m s j)%(p:Int)) from fun k hk h h'=>by
   rw[HK.o];refine Mg (fun j hj=>?_) m hk;rw[Mc h ac hj,Mc h' ac hj];simp)
  obtain⟨aJ,HM,aU,HD,aT⟩:=Of (show ∀k,k<=m->p^k<=256 from fun k hk=>Nat.le_trans (Nat.pow_le_pow_right ac hk) hq) (show ∀k,m<=k->z/p^k=0 from fun k hk=>Nat.div_eq_of_lt (Nat.lt_of_lt_of_le hz (Nat.pow_le_pow_right ac hk))) (show ∀k,m<=k->s/p^k=0 from fun k hk=>Nat.div_eq_of_lt (Nat.lt_of_lt_of_le ht (Nat.pow_le_pow_right ac hk))) (show ∀z k,z/p^(k+1)=z/p^k/p from fun z k=>by rw[Nat.pow_succ,Nat.div_div_eq_div_mul]) (fun k=>Nat.pow_succ p k);have hp2:((p:Int)==2)=false:=by simp;omega
  clear hg c0 HK;obtain⟨C,hC⟩:∃C:Nat->Int,(fun k=>EJ p k (fun j=>(AK p m z j+AK p m s j)%(p:Int)))=C:=⟨_,rfl⟩;have aD:∀k,EJ p k (fun j=>(AK p m z j+AK p m s j)%(p:Int))=C k:=fun k=>congrFun hC k;simp only[aD]at aI HR HE;have aW:=Aa (show C 0=0 by rw[<-aD];rfl);clear hC aD hz ht h2;go_enter Tryz.func163,Tryz.ntmps163
  go_wp2_with fail
  refine aN.o.mono ?_;rintro e w1⟨rfl,n0,rfl⟩;go_wp2_with fail
  refine(aM.o n0).mono ?_;rintro e w1⟨rfl,n1,rfl⟩;have c0:=aF.o;go_wp2_with fail
  clear c0
  go_loopw [1,2,7,8] (fun z' s' o' q' wr=>∃k n:Nat,k<=m/\z'= .int .i64 ((z/p^k:Nat):Int)/\s'= .int .i64 ((s/p^k:Nat):Int)/\o'= .int .i64 (C k)/\q'= .int .i64 ((p^k:Nat):Int)/\wr=w.drewN n) (fun _ _ _ q' _=>300-(intOf q').toNat)
  case atStart=>exact⟨0,_,ac,ag,ag,by rw[aW.o],ag,rfl⟩
  case round=>
   obtain⟨k,n,hk,rfl,rfl,rfl,rfl,rfl⟩:=hrel;have hdz:z/p^k<=z:=Nat.div_le_self _ _;have hds:s/p^k<=s:=Nat.div_le_self _ _;have hpl:=aJ.o k hk;have hpp:1<=p^k:=Nat.pow_pos ac;obtain⟨r1,r2⟩:=HR.o k;obtain⟨HS,aO,aL,aK,aQ,aP,aE⟩:=OK (aI.o k) (HE.o k hk) (HM.o k) (aU.o k) (HD.o z k) (HD.o s k) (aT.o k);have r0:=aF.o;generalize z/p^k=y at *;generalize s/p^k=t at *;generalize p^k=pk at *;by_cases hy:y=0/\t=0
   .obtain⟨rfl,rfl⟩:=hy;have HF:=Aa (aO.o rfl rfl);go_wp2_with fail
    go_ret;exact⟨Af HF.o.symm,n,rfl⟩
   .have aA:k<m:=by
     rcases Nat.lt_or_ge k m with h|h
     .exact h
     .exact absurd ⟨aL.o h,aK.o h⟩ hy
    have aB:=Aa (HS.o aA);have aC:=aJ.o (k+1) aA;rw[aE.o]at aC;have hc:0<y∨(y=0/\0<t):=ac;have aR:=Nat.mod_lt y (show 0<p by omega);have htm:=Nat.mod_lt t (show 0<p by omega);have aS:=Aa (It y p ac);have aH:=Aa (It t p ac);have i1:(y:Int).tmod (p:Int)=((y%p:Nat):Int):=by rw[Int.tmod_eq_emod_of_nonneg ac];rfl
    have aG:(t:Int).tmod (p:Int)=((t%p:Nat):Int):=by rw[Int.tmod_eq_emod_of_nonneg ac];rfl
    obtain⟨u,hu⟩:=nA (y%p);have HU:=Aa hu;rw[hu]at aR i1 aB;clear hu;generalize t%p=v at *;have d1:=Int.emod_nonneg ((u:Int)+v) (show(p:Int)≠0 by omega);have d2:=Int.emod_lt_of_pos ((u:Int)+v) (show 0<(p:Int) by omega);have i3:((u:Int)+v).tmod (p:Int)=((u:Int)+v)%(p:Int):=Int.tmod_eq_emod_of_nonneg ac;obtain⟨D,hD⟩:=nA (((u:Int)+v)%(p:Int));have aV:=Aa hD;rw[hD]at d1 d2 i3 aB;clear hD;have d3:0<=D*(pk:Int):=Int.mul_nonneg d1 ac;have d4:D*(pk:Int)<=65536:=by
     exact zbX
    have d5:(pk:Int)*(p:Int)=((pk*p:Nat):Int):=ag;have d6:0<=(pk:Int)*(p:Int):=ac;have d7:(pk:Int)*(p:Int)<=256:=ac;have p0:¬p=0:=ac;have i2:IntKind.i64.wrap ((u:Int)+v)=(u:Int)+v:=IntWalk.i64_in _ ac;have i4:IntKind.i64.wrap (D*(pk:Int))=D*(pk:Int):=IntWalk.i64_in _ ac;have i5:IntKind.i64.wrap (C k+D*(pk:Int))=C k+D*(pk:Int):=IntWalk.i64_in _ ac;clear HS aO aL aK hy;have D5:=Aa d5;have D8:=Aa (show(pk:Int)<(pk:Int)*(p:Int) by rw[d5];have:=Nat.mul_le_mul_left pk p2;omega);clear d5;rcases hc with hc|⟨hc1,hc2⟩
    .have hb1:decide (0<(y:Int))=true:=by simpa using hc
     go_wp2_with fail
     go_quiet (fail)
     clear i1 aG i2 i3 i4 i5;go_wp2_with fail
     go_roundw
     case rel=>exact⟨k+1,_,aA,by rw[aQ.o,<-aS.o],by rw[aP.o,<-aH.o],by rw[aB.o],by rw[aE.o,D5.o],rfl⟩
     case measure=>have h1:=D8.o;simp[intOf];omega
    .have hb2:decide (0<(t:Int))=true:=by simpa using hc2
     subst hc1;obtain rfl:u=0:=by rw[<-HU.o,Nat.zero_mod]
     have i6:IntKind.i64.wrap (v:Int)=(v:Int):=IntWalk.i64_in _ ac;have i7:(v:Int).tmod (p:Int)=D:=by rw[Int.tmod_eq_emod_of_nonneg ac,<-aV.o];simp
     have HZ:=Aa (show(0:Nat)/p=0 from Nat.zero_div p);clear i1 i2 i3;go_wp2_with fail
     go_quiet (fail)
     clear aG i4 i5 i6 i7;go_wp2_with fail
     go_roundw
     case rel=>exact⟨k+1,_,aA,by rw[aQ.o,HZ.o];rfl,by rw[aP.o,<-aH.o],by rw[aB.o],by rw[aE.o,D5.o],rfl⟩
     case measure=>have h1:=D8.o;simp[intOf];omega
end
def Ef(p m:Nat)(ml:List Int)(z:Nat):Nat:=((List.range (p^m)).find? fun y=>decide (1<=y)&&Al p m (lw ml) z y==1).getD 0
theorem OA{p m:Nat}{ml:List Int}(hp:2<=p)(hm:1<=m)(hF:Hr p m (lw ml)){z y:Nat}(hz:z<p^m)(aA:1<=z)(hy:y<p^m)(h:Al p m (lw ml) z y=1):Ef p m ml z=y:=by
 have aB:1<=y:=by
  rcases Nat.eq_zero_or_pos y with e|e
  .subst e;rw[A5,BY ac]at h;omega
  .exact e
 unfold Ef;rcases hf:(List.range (p^m)).find? (fun y=>decide (1<=y)&&Al p m (lw ml) z y==1) with _|i
 .exfalso;have:=List.find?_eq_none.1 hf y (List.mem_range.2 hy);simp[aB,h]at this
 .have h1:=List.find?_some hf;have h2:=List.mem_range.1 (List.mem_of_find?_eq_some hf);simp at h1;exact hF.cancel hp hm aA hz h2 hy (by rw[Option.getD_some,A5 i z,h1.2,A5 y z,h])
section
variable {b p m x0:Nat} {ml:List Int}
theorem Bj.isF{w:World}(hg:Bj w b p m ml x0)(h1:1<=x0)(h2:x0<p^m):Hr p m (lw ml):=⟨x0,h1,h2,hg.gen⟩
theorem zbi{P:Prop}(h:P:=by
 go_enter Tryz.func106,Tryz.ntmps106
 go_wp2_with fail
 refine aF.o.mono ?_;rintro e w1⟨rfl,n0,rfl⟩;go_wp2_with fail
 refine(aE.o n0).mono ?_;rintro e w1⟨rfl,n1,rfl⟩;go_wp2_with fail
 go_ret;exact⟨Af (by rw[HZ.o];rfl),_,rfl⟩):P:=h
theorem eh{P:Prop}(h:P:=by rw[<-hr];exact Nat.mod_lt _ ac):P:=h
theorem Fg(w:World)(hg:Bj w b p m ml x0)(x y:Int):
  Calls Tryz.prog 106 #[.pointer (some (b,0)),x,y] w (Qt w (.int .i64 (Al p m (lw ml) (Av (p^m) x) (Av (p^m) y):Nat))):=by
 have HI:=Aa (fun n x=>Ik (w.drewN n) (hg.drewN n) x);have aF:=Aa (Ik w hg x);have p2:=hg.sh.p2;have m1:=hg.sh.m1;have hq:=hg.sh.q;have aG:=Bw p2 m1;have c3:=hg.c3;obtain⟨ev,c4,he⟩:=hg.c4;obtain⟨lv,f,c5,hl,hf⟩:=hg.c5;obtain⟨ea,ec,rfl,e1,e2,e3⟩:=he.open;obtain⟨la,lc,rfl,l1,l2,l3⟩:=hl.open;rw[Ao]at *;obtain⟨eb,eo,rfl,e4⟩:=e3 ac;obtain⟨lb,lo,rfl,l4⟩:=l3 ac;have hz:Av (p^m) x<p^m:=Cc ac x;have ht:Av (p^m) y<p^m:=Cc ac y;have aE:=Aa (fun n=>HI.o n y);clear HI e3 l3 he hl;unfold maxLen at e2 l2;generalize Av (p^m) x=z at *;generalize Av (p^m) y=t at *;by_cases h0:z=0
 .subst h0;have HZ:=Aa (BY (m:=m) (low:=lw ml) (show 1<=p by omega) t);clear hg c3 c4 c5 hz ht hq aG hf e4 l4 e1 e2 l1 l2;exact zbi
 .have z1:1<=z:=by omega
  have hzb:((z:Int)==0)=false:=aq;by_cases h1:t=0
  .subst h1;have HZ:=Aa (show Al p m (lw ml) z 0=0 by rw[A5];exact BY (show 1<=p by omega) z);clear hg c3 c4 c5 hz ht hq aG hf e4 l4 e1 e2 l1 l2 h0;exact zbi
  .have t1:1<=t:=by omega
   have htb:((t:Int)==0)=false:=aq;obtain⟨i,hi,aA⟩:=hg.gen.all p2 m1 z1 hz;obtain⟨j,hj,aB⟩:=hg.gen.all p2 m1 t1 ht;have aJ:=l4 z (f z) (AQ hz f);have aK:=l4 t (f t) (AQ ht f);have aC:=hf i hi;have aD:=hf j hj;rw[aA]at aC;rw[aB]at aD;rw[aC]at aJ;rw[aD]at aK;obtain⟨r,hr⟩:=nA ((i+j)%(p^m-1));have aI:r<p^m-1:=eh;have aL:=e4 r _ (AQ aI _);have aH:Lf p m ml x0 r=((Al p m (lw ml) z t:Nat):Int):=by
    unfold Lf;rw[<-hr,hg.gen.mod p2 m1,CQ p2 m1,aA,aB]
   rw[aH]at aL;have aM:Hia (((i:Int)+j).tmod (((p^m:Nat):Int)-1)=(r:Int)):=Aa (by
    rw[Int.tmod_eq_emod_of_nonneg ac,<-hr,Int.natCast_emod]
    congr 1
    omega)
   generalize Al p m (lw ml) z t=kz at *;generalize p^m=q at *;have C3:=Aa c3;have C4:=Aa c4;have C5:=Aa c5;clear hg hf e4 l4 aC aD aA aB hr aH h0 h1 c3 c4 c5;go_enter Tryz.func106,Tryz.ntmps106
   go_wp2_with fail
   refine aF.o.mono ?_;rintro e w1⟨rfl,n0,rfl⟩;go_wp2_with fail
   refine(aE.o n0).mono ?_;rintro e w1⟨rfl,n1,rfl⟩;have c3:=C3.o;have c4:=C4.o;have c5:=C5.o;have i1:IntKind.i64.wrap ((i:Int)+j)=(i:Int)+j:=IntWalk.i64_in _ ac;have i2:IntKind.i64.wrap ((q:Int)-1)=(q:Int)-1:=IntWalk.i64_in _ ac;have i3:=aM.o;have i4:¬q=1:=bu;have i5:¬((q:Int)-1=0):=ac;go_wp2_with fail
   go_quiet (fail)
   go_wp2_with fail
   go_ret;exact⟨rfl,_,World.drewN_drewN _ _ _⟩
def RW(p m:Nat)(ml:List Int)(z:Nat):Value:=if z=0 then .tuple #[(0:Int),(7:Int)] else .tuple #[(Ef p m ml z:Nat),(0:Int)]
theorem Um(w:World)(hg:Bj w b p m ml x0)(aG:1<=x0)(aF:x0<p^m)(x:Int):
  Calls Tryz.prog 250 #[.pointer (some (b,0)),x] w (Qt w (RW p m ml (Av (p^m) x))):=by
 have aE:=Aa (Ik w hg x);have hF:=hg.isF aG aF;have p2:=hg.sh.p2;have m1:=hg.sh.m1;have hq:=hg.sh.q;have aI:=Bw p2 m1;have c3:=hg.c3;obtain⟨ev,c4,he⟩:=hg.c4;obtain⟨lv,f,c5,hl,hf⟩:=hg.c5;obtain⟨ea,ec,rfl,e1,e2,e3⟩:=he.open;obtain⟨la,lc,rfl,l1,l2,l3⟩:=hl.open;rw[Ao]at *;obtain⟨eb,eo,rfl,e4⟩:=e3 ac;obtain⟨lb,lo,rfl,l4⟩:=l3 ac;have hz:Av (p^m) x<p^m:=Cc ac x;clear e3 l3 he hl;unfold maxLen at e2 l2;generalize Av (p^m) x=z at *;by_cases h0:z=0
 .subst h0;have HZ:=Aa (show RW p m ml 0= .tuple #[(0:Int),(7:Int)] from rfl);clear hg c3 c4 c5 hz hq aI hf e4 l4 e1 e2 l1 l2;go_enter Tryz.func250,Tryz.ntmps250
  go_wp2_with fail
  refine aE.o.mono ?_;rintro e w1⟨rfl,n0,rfl⟩;go_wp2_with fail
  go_ret2;exact⟨by rw[HZ.o];rfl,_,rfl⟩
 .have z1:1<=z:=by omega
  have hzb:((z:Int)==0)=false:=aq;obtain⟨i,hi,aB⟩:=hg.gen.all p2 m1 z1 hz;have aJ:=l4 z (f z) (AQ hz f);have aC:=hf i hi;rw[aB]at aC;rw[aC]at aJ;obtain⟨r,hr⟩:=nA ((p^m-1-i)%(p^m-1));have aH:r<p^m-1:=eh;have aK:=e4 r _ (AQ aH _);have aA:=hg.gen.inv p2 m1 hi;rw[hr,aB]at aA;have hk:=OA p2 m1 hF hz z1 (Dn p2 m1 _ _) aA;have aD:Lf p m ml x0 r=((Ef p m ml z:Nat):Int):=by unfold Lf;rw[hk]
  rw[aD]at aK;have HZ:=Aa (show RW p m ml z= .tuple #[(Ef p m ml z:Nat),(0:Int)] by unfold RW;rw[if_neg h0]);have aL:Hia ((((p^m:Nat):Int)-1-(i:Int)).tmod (((p^m:Nat):Int)-1)=(r:Int)):=Aa (by
   rw[Int.tmod_eq_emod_of_nonneg ac,<-hr,Int.natCast_emod]
   congr 1
   .omega
   .omega)
  generalize Ef p m ml z=kz at *;generalize p^m=q at *;have C3:=Aa c3;have C4:=Aa c4;have C5:=Aa c5;clear hg hF hf e4 l4 aC aB hr aD h0 c3 c4 c5 aA hk;go_enter Tryz.func250,Tryz.ntmps250
  go_wp2_with fail
  refine aE.o.mono ?_;rintro e w1⟨rfl,n0,rfl⟩;have c3:=C3.o;have c4:=C4.o;have c5:=C5.o;have i1:IntKind.i64.wrap ((q:Int)-1-(i:Int))=(q:Int)-1-i:=IntWalk.i64_in _ ac;have i2:IntKind.i64.wrap ((q:Int)-1)=(q:Int)-1:=IntWalk.i64_in _ ac;have i3:=aL.o;have i4:¬q=1:=bu;have i5:¬((q:Int)-1=0):=ac;go_wp2_with fail
  go_quiet (fail)
  go_wp2_with fail
  go_ret2;exact⟨by rw[HZ.o];rfl,_,World.drewN_drewN _ _ _⟩
theorem Kk{p m:Nat}{ml:List Int}(hq:1<=p^m)(z:Nat):Ef p m ml z<p^m:=by
 unfold Ef;rcases hf:(List.range (p^m)).find? (fun y=>decide (1<=y)&&Al p m (lw ml) z y==1) with _|i
 .show 0<p^m;omega
 .exact List.mem_range.1 (List.mem_of_find?_eq_some hf)
def Cd(p m:Nat)(ml:List Int):List Int->List Int->Nat->Nat
 | x :: l,y :: k,s=>Cd p m ml l k (AH p m s (Al p m (lw ml) (Av (p^m) x) (Av (p^m) y)))
 | _,_,s=>s
theorem G8{p m:Nat}{ml:List Int}:∀(l k:List Int) (i:Nat) (s:Nat) (x y:Int),l[i]?=some x->k[i]?=some y->
  Cd p m ml (l.take (i+1)) (k.take (i+1)) s=AH p m (Cd p m ml (l.take i) (k.take i) s) (Al p m (lw ml) (Av (p^m) x) (Av (p^m) y))
 | [],k,i,s,x,y,h,_=>by simp at h
 | a :: l, [],i,s,x,y,_,h=>by simp at h
 | a :: l,c :: k,0,s,x,y,h,h'=>by
  simp at h h';subst h;subst h';cases l <;> cases k <;> simp[Cd]
 | a :: l,c :: k,i+1,s,x,y,h,h'=>by
  simp only[List.take_succ_cons,Cd];exact G8 l k i _ x y (by simpa using h) (by simpa using h')
theorem Kl{p m:Nat}{ml:List Int}(hp:1<=p):∀(l k:List Int) (s:Nat),s<p^m->Cd p m ml l k s<p^m
 | x :: l,y :: k,s,_=>Kl hp l k _ (G9 hp _ _)
 | [],_,s,h=>by simpa[Cd]using h
 | _ :: _, [],s,h=>by simpa[Cd]using h
theorem Jt{p m:Nat}{ml:List Int}:∀(l k:List Int) (i s:Nat),min l.length k.length<=i->Cd p m ml (l.take i) (k.take i) s=Cd p m ml l k s
 | [],k,i,s,_=>by simp[Cd]
 | a :: l, [],i,s,_=>by cases i <;> simp[Cd]
 | a :: l,c :: k,0,s,h=>by simp at h
 | a :: l,c :: k,i+1,s,h=>by
  simp only[List.take_succ_cons,Cd];exact Jt l k i _ (by simp at h;omega)
end
end Go.Proofs.YtehieobniamagaaGreat
