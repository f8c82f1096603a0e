/- Walk of the echelon's reduce. -/
import Derived.Deep.CutRange
import Derived.Test.YtehieobniamagaaGreatZp15
namespace Go.Proofs.YtehieobniamagaaGreat
set_option linter.unusedVariables false
set_option linter.unusedSimpArgs false
set_option maxRecDepth 100000
set_option maxHeartbeats 4000000
section
open Go.RowKit
structure Fe(w:World)(E b t:Nat)(e:M4)(rv pv:Value):Prop where
 c0:w.cell? ⟨E,0,none⟩=some (.pointer (some ⟨b,0,none⟩))
 c1:w.cell? ⟨E,1,none⟩=some rv
 c2:w.cell? ⟨E,2,none⟩=some pv
 rows:B6 w rv (AM t e.n e.a)
 plc:Ak w pv (il e.n fun i=>(e.pl i:Int))
theorem Fe.ex{w w':World}{E b t:Nat}{e:M4}{rv pv:Value}(h:Fe w E b t e rv pv)(hx:Ex w w'):Fe w' E b t e rv pv:=
 ⟨hx.cell h.c0,hx.cell h.c1,hx.cell h.c2,h.rows.ex hx,h.plc.ex hx⟩
theorem Rm(p m:Nat)(ml:List Int)(x:Int)(u r:Nat->Int):Fq p m ml x u r 0=u:=by funext j;unfold Fq;rw[if_neg ac]
theorem Rn(p m:Nat)(ml:List Int)(x:Int)(u r:Nat->Int)(c:Nat):Ax (Fq p m ml x u r c) c (OW p m ml x u r c)=Fq p m ml x u r (c+1):=by
 funext j;by_cases e:j=c
 .subst e;rw[Ab];unfold Fq;rw[if_pos ac]
 .rw[Ae _ _ e];unfold Fq;by_cases h:j<c
  .exact zaM
  .rw[if_neg h,if_neg ac]
theorem Ro{p m:Nat}{ml:List Int}{x:Int}{u r:Nat->Int}{c:Nat}(h:r c=0):Fq p m ml x u r (c+1)=Fq p m ml x u r c:=by
 funext j;unfold Fq;by_cases e:j=c
 .subst e;rw[if_pos ac,if_neg ac];unfold OW;rw[if_pos h]
 .by_cases h:j<c
  .exact zaM
  .rw[if_neg h,if_neg ac]
theorem SS{p m:Nat}{ml:List Int}{x:Int}{u r:Nat->Int}{t j:Nat}(h:j<t):Fq p m ml x u r t j=OW p m ml x u r j:=by unfold Fq;rw[if_pos h]
theorem ST(w:World)(x:Int):
  Calls Tryz.prog 269 #[.int .i64 x] w fun r w'=>r= .returned (.bool (x !=0))/\Ex w w':=by
 go_enter Tryz.func269,Tryz.ntmps269
 go_wp2_with fail
 go_ret;exact⟨rfl,Ex.refl _⟩
section
variable {b p m x0:Nat} {ml:List Int}
theorem Jg(w:World)(hg:AR w b p m ml x0)(E t:Nat)(ht:t<=1000)(e:M4)(rv pv:Value)(hE:Fe w E b t e rv pv)(aR:∀i,i<e.n->e.pl i<t)(f:Nat->Int)(vv:Value)(hv:Ak w vv (il t f)):
  Calls Tryz.prog 261 #[.pointer (some ⟨E,0,none⟩),vv] w fun r w'=>∃v',r= .returned (.tuple #[v',.int .i64 (RG t (e.red p m ml f))])/\Ak w' v' (il t (e.red p m ml f))/\Ex w w':=by
 obtain⟨n,a,pl⟩:=e;simp only[M4.red]at *;obtain⟨e0,e1,e2,aC,aH⟩:=hE;simp only at e1 e2 aC aH aR;obtain⟨ra,rc,rfl,r1,r2,r3⟩:=aC.open;obtain⟨pa,pc,rfl,p1,p2,p3⟩:=aH.open;rw[Cc]at r1 r3 e1;rw[AY]at p1 p3 e2;unfold maxLen at r2 p2;have R3:=Aa r3;have P3:=Aa p3;have E0:=Aa e0;have E1:=Aa e1;have E2:=Aa e2;have bT:=Aa aR;have HG:=Aa hg;by_cases ht0:t=0
 .subst ht0;have bP:n=0:=by
   by_cases h:n=0
   .exact h
   .exact absurd (aR 0 ac) ac
  subst bP;have aN:=Aa (E9 w (il 0 f) vv hv (by simp[il]));clear hv hg aC aH r3 p3 aR;have aT:Vr p m ml a pl f 0=f:=rfl;rw[aT];go_enter Tryz.func261,Tryz.ntmps261
  go_wp2_with fail
  refine aN.o.mono ?_;rintro e w1⟨v1,rfl,aW,-,aJ⟩;have bG:=aJ.cell E1.o;have bI:=Aa aW;have aT:=Aa aJ;obtain⟨va,vc,rfl,-,-,-⟩:=aW.open;clear aW aJ;go_wp2_with fail
  go_loopw [18] (fun i' wr=>i'= .int .i64 0/\wr=w1) (fun i' _=>0)
  case atStart=>exact⟨rfl,rfl⟩
  case round=>
   obtain⟨rfl,rfl⟩:=hrel;have aZ:=Aa (Gd wr (.slice va (il 0 f).length vc) 0 [] (by simpa[Ak,il,Am]using bI.o) (fun j=>f j !=0) (fun w1 i u h1 hu=>by simp at hu));go_wp2_with fail
   refine aZ.o.mono ?_;rintro e w2⟨rfl,aO⟩;have aK:=Aa aO;clear aO;go_wp2_with fail
   go_ret2;exact⟨_,rfl,bI.o.ex aK.o,aT.o.trans aK.o⟩
 .have aN:=Aa (Lq w (il t f) vv hv (by rw[AY];omega) (by rw[AY];omega));have bJ:=Aa (fun (w1:World) (h1:Ex w w1) (y z:Int)=>Wx w1 (HG.o.ex h1) y z);have bM:=Aa (fun (w1:World) (h1:Ex w w1) (y z:Int)=>Eg w1 (HG.o.ex h1) y z);have bU:=Aa hg.sh.p2;obtain⟨K,hK⟩:=nA (Vr p m ml a pl f);have bX:=Aa (show K 0=f from by rw[<-hK];rfl);have bW:=Aa (fun k=>show K (k+1)=Xq p m ml (K k) (pl k) (a k) from by rw[<-hK];rfl);rw[hK];rw[AY]at aN;obtain⟨va,vc,rfl,-,-,-⟩:=hv.open;rw[AY]at aN ⊢;clear hv hg aC aH r3 p3 aR hK;go_enter Tryz.func261,Tryz.ntmps261
  go_wp2_with fail
  refine aN.o.mono ?_;rintro e w1⟨g,cap,rfl,bE,aJ⟩;have bG:=aJ.cell E1.o;have bL:=Aa (show AQ w1 w.heap.size 3 g t cap (iv (K 0)) from bE.icongr fun j hj=>by
   rw[bX.o];exact JR hj f)
  have aT:=Aa aJ;clear bE aJ;go_wp2_with fail
  go_loopw [18] (fun i' wr=>∃i:Nat,i<=n/\i'= .int .i64 i/\Hia (AQ wr w.heap.size 3 g t cap (iv (K i)))/\Hia (Ex w wr)) (fun i' _=>n-(intOf i').toNat)
  case atStart=>exact⟨0,ac,rfl,bL,aT⟩
  case round=>
   clear bL bG;obtain⟨i,hi,rfl,aA,aD⟩:=hrel;by_cases hin:i<n
   .obtain⟨rb,ro,rfl,aQ⟩:=R3.o ac;obtain⟨pb,po,rfl,bD⟩:=P3.o ac;obtain⟨uv,aP,bA⟩:=aQ i _ (FL hin);have cu:=aD.o.cell aP;have cp:=aD.o.cell (bD i _ (AH hin _));have d0:=aD.o.cell E0.o;have d2:=aD.o.cell E2.o;have bB:=bT.o i hin;have co:wr.cell? ⟨g,pl i,none⟩=some (.int .i64 (K i (pl i))):=aA.o.cell bB;have i1:(0:Int)<=(i:Int):=by omega
    have i2:(i:Int)<(n:Int):=ac;have i3:(0:Int)<=(pl i:Int):=ac;have i4:(pl i:Int)<(t:Int):=ac;have aY:=Aa bA;have aE:=Aa aA.o;have aB:=Aa aD.o;have aF:=bW.o i;obtain⟨r,hr⟩:=nA (a i);rw[hr]at aY aF;obtain⟨u,hu⟩:=nA (K i);rw[hu]at aE aF co;obtain⟨pi,bC⟩:∃q,pl i=q:=⟨_,rfl⟩;rw[bC]at co aF bB i3 i4 cp;obtain⟨x,hx⟩:=nA (u pi);rw[hx]at co;unfold Xq at aF;rw[hx]at aF;obtain⟨ua,uc,rfl,u1,u2,u3⟩:=aY.o.open;rw[AY]at u1 u3 cu;unfold maxLen at u2;have U3:=Aa u3;clear bD aQ aP bA u3 hr hu bC aA aD aY;by_cases h0:x=0
    .rw[if_pos h0]at aF;have bS:(x !=0)=false:=by simp[h0]
     have aI:=Aa (show AQ wr w.heap.size 3 g t cap (iv (K (i+1))) from by rw[aF];exact aE.o);clear h0 hx aF;go_wp2_with fail
     go_roundw
     case rel=>exact⟨i+1,ac,by go_num,aI,aB⟩
     case measure=>simp[intOf];omega
    .rw[if_neg h0]at aF;have bS:(x !=0)=true:=by simpa using h0
     have bN:=Aa aF;clear h0 hx aF;go_wp2_with fail
     obtain⟨w8,aU⟩:∃w8,w8=wr:=⟨_,rfl⟩;have aM:=Aa aB.o;rw[<-aU]at aM;have bK:=Aa (show AQ w8 w.heap.size 3 g t cap (iv (Fq p m ml x u r 0)) from by rw[Rm,aU];exact aE.o);have bV:=Aa (show ∀w',Ex w w'->w'.cell? ⟨E,0,none⟩=some (.pointer (some ⟨b,0,none⟩)) from fun w' h=>h.cell E0.o);have HWW:=Aa (aU ▸ aB.o);have U8:=Aa (show 0<t->∃bH o,ua=some ⟨bH,o,none⟩/\∀(j:Nat) (x:Int),(il t r)[j]?=some x->w.cell? ⟨bH,o+j,none⟩=some (.int .i64 x) from U3.o);subst aU;clear co cp cu d0 d2 aE aB
     go_loopw [37] (fun c' wr=>∃c:Nat,c<=t/\c'= .int .i64 c/\Hia (AQ wr w.heap.size 3 g t cap (iv (Fq p m ml x u r c)))/\Hia (Ex w wr)) (fun c' _=>t-(intOf c').toNat)
     case atStart=>exact⟨0,ac,rfl,bK,aM⟩
     case round=>
      clear bK aM;obtain⟨c,hc,rfl,aA,aD⟩:=hrel;by_cases hct:c<t
      .obtain⟨ub,uo,rfl,aP⟩:=U8.o ac;have d1:=aD.o.cell (aP c (r c) (AH hct r));have j1:(0:Int)<=(c:Int):=by omega
       have j2:(c:Int)<(t:Int):=ac;have aB:=Aa aD.o;have aE:=Aa aA.o;clear aP aA aD;by_cases hr0:r c=0
       .have bF:(r c !=0)=false:=by simp[hr0]
        have aI:=Aa (show AQ wr w.heap.size 3 g t cap (iv (Fq p m ml x u r (c+1))) from by rw[Ro hr0];exact aE.o);clear hr0 aE;go_wp2_with fail
        go_roundw
        case rel=>exact⟨c+1,ac,by go_num,aI,aB⟩
        case measure=>simp[intOf];omega
       .have bF:(r c !=0)=true:=by simpa using hr0
        have bR:wr.cell? ⟨g,c,none⟩=some (.int .i64 (u c)):=by
         rw[aE.o.cell hct];show some (Value.int .i64 (Fq p m ml x u r c c))=_;unfold Fq;rw[if_neg ac]
        have bQ:=aE.o.frz c;have d0:=bV.o _ aB.o;obtain⟨K1,aV⟩:∃K,Ar p m (lw ml) (AA (p^m) x) (AA (p^m) (r c))=K:=⟨_,rfl⟩;have aS:K1<p^m:=by rw[<-aV];exact Cg (by have:=bU.o;omega) _ _
        have aG:=Aa (fun w' (h:Ex w w')=>bM.o w' h x (r c));rw[aV]at aG;obtain⟨K2,aX⟩:∃K,A9 p m (AA (p^m) (u c)) (DI p m (AA (p^m) (K1:Nat)))=K:=⟨_,rfl⟩;have aL:=Aa (fun w' (h:Ex w w')=>bJ.o w' h (u c) (K1:Nat));rw[aX]at aL;have bO:=Aa (show OW p m ml x u r c=(K2:Nat) from by
         unfold OW;rw[if_neg hr0,aV,<-aX,Bu aS])
        obtain⟨rc,aQ⟩:∃y,r c=y:=⟨_,rfl⟩;rw[aQ]at bF d1 aG;clear aV aX aS hr0 aQ;have aI:=Aa (fun n=>show AQ ((wr.drewN n).setCell ⟨g,c,none⟩ (.int .i64 (K2:Nat))) w.heap.size 3 g t cap (iv (Fq p m ml x u r (c+1))) from by
         have:=(aE.o.drewN n).set c (.int .i64 (K2:Nat));rw[Cy,<-bO.o,Rn]at this;rw[<-bO.o];exact this)
        have aK:=Aa (fun n=>(aE.o.drewN n).exSet (a:=w) (Nat.le_refl _) (aB.o.drewN n) c (.int .i64 (K2:Nat)));have G0:Ex w wr.drew:=aB.o.drewN 1;clear aE;go_upto_region 11 with fail
        go_region_law
          ((first
                      | (go_simp;go_at_call 106;(with_reducible refine(aG.o _ (aB.o.drewN _)).mono ?_);rintro e wx1⟨rfl,n1,rfl⟩)
                      | (go_simp;go_at_call 106;(with_reducible refine(aG.o _ G0).mono ?_);rintro e wx1⟨rfl,n1,rfl⟩)
                      | (go_simp;go_at_call 268;(with_reducible refine(aL.o _ (aB.o.drewN _)).mono ?_);rintro e wx2⟨rfl,n2,rfl⟩)))
        all_goals
         clear aG aL G0 bR bQ bJ bM aN bN d0 d1;go_wp2_with fail
         go_roundw
         case measure=>simp[intOf];omega
         case rel=>exact⟨c+1,ac,by go_num,Aa (aI.o _),Aa (aK.o _)⟩
      .obtain rfl:c=t:=by omega
       have aI:=Aa (show AQ wr w.heap.size 3 g c cap (iv (K (i+1))) from aA.o.icongr fun j hj=>by rw[SS hj,bN.o]);have aB:=Aa aD.o;clear aA aD;go_wp2_with fail
       go_roundw
       case rel=>first|exact⟨i+1,ac,by go_num,aI,aB⟩|((repeat apply Exists.intro);exact⟨⟨i+1,ac,by go_num,aI,aB⟩,rfl⟩)
       case measure=>simp[intOf];omega
   .obtain rfl:i=n:=by omega
    have aE:=Aa aA.o;have aB:=Aa aD.o;have aZ:=Aa (Gd wr (.slice (some ⟨g,0,none⟩) t cap) t _ aA.o.sl (fun j=>K i j !=0) (fun w1 j u h1 hu=>by
     have hj:j<t:=by
      have:=(List.getElem?_eq_some_iff.1 hu).1;rw[Bm]at this;exact this
     rw[Dy hj]at hu;injection hu with hu;subst hu;exact ST w1 (K i j)))
    clear aA aD;go_wp2_with fail
    refine aZ.o.mono ?_;rintro e w2⟨rfl,aO⟩;have aK:=Aa aO;clear aO;go_wp2_with fail
    go_ret2;exact⟨_,rfl,(aE.o.ex aK.o).isl,aB.o.trans aK.o⟩
end
end
section
open Go.RowKit
theorem Bv.other{w w':World}{base b2:Nat}{e2:TypeId}{s2 n:Nat}{cv pv pv':Value}{M:List (List Int)}{vals xs news:List Value}(h:Bv w base cv M vals)(ha:A8 w w' b2 e2 s2 pv pv' n xs news)(hc:AJ cv pv)(hv:∀u∈vals,AJ u pv):
  Bv w' base cv M vals/\AJ cv pv'/\∀u∈vals,AJ u pv':=by
 have hn:=h.len;have h0:=ha.row h.cvo hc;refine⟨⟨h0.1,fun i r u h1 h2=>(ha.row (h.row i r u h1 h2) (hv u (List.mem_of_getElem? h2))).1,h.apart⟩,h0.2,fun u hu=>?_⟩;obtain⟨i,hi,e⟩:=List.getElem_of_mem hu;exact(ha.row (h.row i (M[i]'ac) u (List.getElem?_eq_getElem _) ar) (hv u hu)).2
structure Lp(w1 wr:World)(E b:Nat)(M:List (List Int))(P:List Int)(rv pv:Value)(vals:List Value):Prop where
 c0:wr.cell? ⟨E,0,none⟩=some (.pointer (some ⟨b,0,none⟩))
 c1:wr.cell? ⟨E,1,none⟩=some rv
 c2:wr.cell? ⟨E,2,none⟩=some pv
 f1:wr.frozen? ⟨E,1,none⟩=false
 f2:wr.frozen? ⟨E,2,none⟩=false
 rows:Bv wr (E+1) rv M vals
 plc:wr.ownsRow (E+1) 3 1 pv P.length (Am P)
 ap:AJ rv pv
 av:∀u∈vals,AJ u pv
 lb:w1.heap.size<=E
 ex:Ex w1 wr
section
variable {w1 wr w':World} {E b:Nat} {M:List (List Int)} {P:List Int} {rv pv v' l:Value} {vals:List Value} {L:List Int} {x:Int}
theorem Lp.later(h:Lp w1 wr E b M P rv pv vals)(hx:Ex wr w'):Lp w1 w' E b M P rv pv vals:=
 ⟨hx.cell h.c0,hx.cell h.c1,hx.cell h.c2,hx.frz h.c1 h.f1,hx.frz h.c2 h.f2,h.rows.ex hx,Ai h.plc hx,h.ap,h.av,h.lb,h.ex.trans hx⟩
theorem DX{w:World}{e:TypeId}{s n:Nat}{v:Value}{xs:List Value}(h:w.ownsRow (E+1) e s v n xs):v.ownBlock≠some E:=fun e=>by
 have:=(h.lt E e).1;omega
theorem Lp.at1(h:Lp w1 wr E b M P rv pv vals)(ha:A8 wr w' (E+1) 22 1 rv v' M.length vals [l]):w'.cell? ⟨E,1,none⟩=some rv/\w'.frozen? ⟨E,1,none⟩=false:=
 ⟨ha.cell h.c1 (fun e=>DX h.rows.cvo e.symm),ha.frz h.c1 h.f1 (fun e=>DX h.rows.cvo e.symm)⟩
theorem Lp.app1(h:Lp w1 wr E b M P rv pv vals)(hl:wr.ownsRow (E+1) 3 1 l L.length (Am L))(h1:AJ l rv)(h2:AJ l pv)(ha:A8 wr w' (E+1) 22 1 rv v' M.length vals [l]):
  Lp w1 (w'.setCell ⟨E,1,none⟩ v') E b (M ++ [L]) P v' pv (vals ++ [l]):=by
 have aA:some E≠rv.ownBlock:=fun e=>DX h.rows.cvo e.symm;have hm:=h.rows.app hl h1 ha;have hr:=ha.row h.plc h.ap.symm;refine⟨?_,World.cell?_setCell_same _ _ _ (ha.cell h.c1 aA),?_,?_,?_,hm.setNe (a:=⟨E,1,none⟩) (by show E<E+1;omega) v',?_,hr.2.symm,?_,h.lb,(ha.ex h.ex (by have:=h.lb;omega)).setCell (p:=⟨E,1,none⟩) h.lb _⟩
 .rw[Ag ae];exact ha.cell h.c0 aA
 .rw[Ag ae];exact ha.cell h.c2 aA
 .rw[Au];exact ha.frz h.c1 h.f1 aA
 .rw[Au];exact ha.frz h.c2 h.f2 aA
 .exact Ad (a:=⟨E,1,none⟩) hr.1 (DX h.plc) v'
 .intro u hu;rcases List.mem_append.1 hu with hu|hu
  .exact h.av u hu
  .simp at hu;subst hu;exact h2
theorem Lp.at2(h:Lp w1 wr E b M P rv pv vals)(ha:A8 wr w' (E+1) 3 1 pv v' P.length (Am P) [.int .i64 x]):w'.cell? ⟨E,2,none⟩=some pv/\w'.frozen? ⟨E,2,none⟩=false:=
 ⟨ha.cell h.c2 (fun e=>DX h.plc e.symm),ha.frz h.c2 h.f2 (fun e=>DX h.plc e.symm)⟩
theorem Lp.app2(h:Lp w1 wr E b M P rv pv vals)(ha:A8 wr w' (E+1) 3 1 pv v' P.length (Am P) [.int .i64 x]):
  Lp w1 (w'.setCell ⟨E,2,none⟩ v') E b M (P ++ [x]) rv v' vals:=by
 have aA:some E≠pv.ownBlock:=fun e=>DX h.plc e.symm;obtain⟨hm,aC,aB⟩:=h.rows.other ha h.ap h.av;have ho:w'.ownsRow (E+1) 3 1 v' (P ++ [x]).length (Am (P ++ [x])):=by
  have:=ha.own;rw[List.length_append,show Am (P ++ [x])=Am P ++ [.int .i64 x] from by unfold Am;simp];exact this
 refine⟨?_,?_,World.cell?_setCell_same _ _ _ (ha.cell h.c2 aA),?_,?_,hm.setNe (a:=⟨E,2,none⟩) (by show E<E+1;omega) v',Ad (a:=⟨E,2,none⟩) ho (DX ho) v',aC,aB,h.lb,(ha.ex h.ex (by have:=h.lb;omega)).setCell (p:=⟨E,2,none⟩) h.lb _⟩
 .rw[Ag ae];exact ha.cell h.c0 aA
 .rw[Ag ae];exact ha.cell h.c1 aA
 .rw[Au];exact ha.frz h.c1 h.f1 aA
 .rw[Au];exact ha.frz h.c2 h.f2 aA
theorem Lp.at{t:Nat}{e:M4}(h:Lp w1 wr E b (AM t e.n e.a) (il e.n fun i=>(e.pl i:Int)) rv pv vals):Fe wr E b t e rv pv:=
 ⟨h.c0,h.c1,h.c2,h.rows.msl,Sl.own h.plc⟩
end
theorem Lp.new(w1:World)(b:Nat):Lp w1 (w1.alloc (.cells #[.pointer (some ⟨b,0,none⟩),.slice none 0 0,.slice none 0 0] 285)) w1.heap.size b [] [] (.slice none 0 0) (.slice none 0 0) [] where
 c0:=ag
 c1:=ag
 c2:=ag
 f1:=ag
 f2:=ag
 rows:=Bv.nil _ _
 plc:=World.ownsRow_nil _ _ _ _
 ap:=AJ.nil _
 av:=fun u h=>(List.not_mem_nil h).elim
 lb:=Nat.le_refl _
 ex:=(Ex.refl _).alloc _
theorem AI(w:World)(o:Obj):Ex w (w.alloc o):=(Ex.refl w).alloc o
theorem Uk{w w':World}{o:Obj}{base:Nat}{e:TypeId}{size:Nat}{v v':Value}{n:Nat}{xs news:List Value}(aB:w.ownsRow base e size v n xs)(aA:w'.ownsRow base e size v' (n+1) (xs++news))
  (hg:(w.alloc o).grownBy w' v.ownBlock) (ha:v'.ownBlock=v.ownBlock∨v'.ownBlock=some (w.alloc o).heap.size):A8 w w' base e size v v' n xs news:=
 ⟨aA,⟨o,hg⟩,by simpa using ha,aB⟩
theorem zbh{P:Prop}(h:P:=by
 rw[List.range_succ,List.map_append]
 congr 1
 .exact List.map_congr_left fun i hi=>by
   have:=List.mem_range.1 hi;rw[Ae _ _ (by omega)]
 .simp[Ab]):P:=h
theorem Vd{p m:Nat}{ml:List Int}{t:Nat}{e:M4}{r:Nat->Int}{k:Nat}(h:RG t (e.red p m ml r)=k):
  AM t (Gf p m ml t e r).n (Gf p m ml t e r).a=AM t e.n e.a ++ [il t (CR p m ml (Zk p m ml (AA (p^m) (e.red p m ml r k))) (e.red p m ml r))]/\(il (Gf p m ml t e r).n fun i=>((Gf p m ml t e r).pl i:Int))=(il e.n fun i=>(e.pl i:Int)) ++ [(k:Int)]:=by
 unfold Gf;rw[if_pos ac,h];simp only[Int.toNat_natCast];constructor
 .unfold AM;exact zbh
 .unfold il;exact zbh
theorem Ve{p m:Nat}{ml:List Int}{t:Nat}{e:M4}{r:Nat->Int}(h:RG t (e.red p m ml r)=-1):Gf p m ml t e r=e:=by
 unfold Gf;rw[if_neg ac]
section
variable {b p m x0:Nat} {ml:List Int}
theorem I7(w:World)(hg:AR w b p m ml x0)(aZ:1<=x0)(aY:x0<p^m)(A:Nat)(hA:w.cell? ⟨A,0,none⟩=some (.pointer (some ⟨b,0,none⟩)))(t R:Nat)(ht:t<=1000)(hR:R<=1000)(a:Nat->Nat->Int)(v:Value)(hv:B6 w v (AM t R a)):
  Calls Tryz.prog 225 #[.pointer (some ⟨A,0,none⟩),v] w fun r w'=>∃E rv pv,r= .returned (.pointer (some ⟨E,0,none⟩))/\Fe w' E b t (G5 p m ml t a R) rv pv/\Ex w w':=by
 obtain⟨ra,rc,rfl,r1,r2,r3⟩:=hv.open;rw[Cc]at r1 r3 ⊢;unfold maxLen at r2;have R3:=Aa r3;have HA:=Aa hA;have HG:=Aa hg;have cU:=Aa (fun (w1:World) (h1:Ex w w1) (y:Int)=>Q9 w1 (hg.ex h1) aZ aY y);have cQ:=Aa (fun (w1:World) (h1:Ex w w1) (c:Int) (f:Nat->Int) (uv:Value) (hu:Ak w1 uv (il t f))=>Ln w1 (hg.ex h1) t f c uv hu ht);have cT:=Aa (fun (w1:World) (h1:Ex w w1) (E:Nat) (e:M4) (rv pv:Value) (hE:Fe w1 E b t e rv pv) (cK:∀i,i<e.n->e.pl i<t) (f:Nat->Int) (vv:Value) (hu:Ak w1 vv (il t f))=>Jg w1 (hg.ex h1) E t ht e rv pv hE cK f vv hu);have HQ:=Aa (show 1<=p^m from ac);clear hv r3 hg;go_enter Tryz.func225,Tryz.ntmps225
 go_wp2_with fail
 obtain⟨E,hE⟩:=nA w.heap.size;have bI:=Aa (Lp.new w b)
 try simp only[hE]
 rw[hE]at bI;have HEW:=Aa hE;generalize w.alloc (.cells #[.pointer (some ⟨b,0,none⟩),.slice none 0 0,.slice none 0 0] 285)=w2 at *;clear hE
 go_loopw [20] (fun i' wr=>∃(k:Nat) (rv pv:Value) (vals:List Value),k<=R/\i'= .int .i64 k/\Hia (Lp w wr E b (AM t (G5 p m ml t a k).n (G5 p m ml t a k).a) (il (G5 p m ml t a k).n fun i=>((G5 p m ml t a k).pl i:Int)) rv pv vals)) (fun i' _=>R-(intOf i').toNat)
 case atStart=>exact⟨0,_,_,_,ac,rfl,bI⟩
 case round=>
  clear bI;obtain⟨k,rv,pv,vals,hk,rfl,Bf⟩:=hrel;by_cases hkR:k<R
  .obtain⟨rb,ro,rfl,bW⟩:=R3.o ac;obtain⟨uv,bV,bU⟩:=bW k _ (FL hkR);have cu:=Bf.o.ex.cell bV;have i1:(0:Int)<=(k:Int):=by omega
   have i2:(k:Int)<(R:Int):=ac;have aL:=Aa Bf.o;have aJ:=Aa (show G5 p m ml t a (k+1)=Gf p m ml t (G5 p m ml t a k) (a k) from rfl);have cD:=Aa (WI (p:=p) (m:=m) (ml:=ml) t a k);have aR:=Aa (cT.o wr Bf.o.ex E (G5 p m ml t a k) rv pv Bf.o.at (I6 t a k) (a k) uv (bU.ex Bf.o.ex));obtain⟨e,he⟩:=nA (G5 p m ml t a k);rw[he]at aL aJ aR cD;obtain⟨z,hz⟩:=nA (RG t (e.red p m ml (a k)));have aX:=Tq t (e.red p m ml (a k));rw[hz]at aR aX;have aE:=Aa (fun k' (h:z=(k':Nat))=>Vd (p:=p) (m:=m) (ml:=ml) (t:=t) (e:=e) (r:=a k) (hz.trans h));have aV:=Aa (fun (h:z=-1)=>Ve (p:=p) (m:=m) (ml:=ml) (t:=t) (e:=e) (r:=a k) (hz.trans h));obtain⟨f,hf⟩:=nA (e.red p m ml (a k));rw[hf]at aR aE;rw[<-aJ.o]at aE aV;clear bW bV bU Bf he hz hf aJ;go_wp2_with fail
   refine aR.o.mono ?_;rintro e' w3⟨v3,rfl,bC,bS⟩;have bF:=Aa bC;have aP:=Aa bS;clear bS aR;obtain⟨va,vc,rfl,-,v2,v3⟩:=bC.open;rw[AY]at v3 bF ⊢;clear bC;by_cases hz0:0<=z
   .obtain⟨k',rfl⟩:=Int.eq_ofNat_of_zero_le hz0;have cL:k'<t:=by omega
    obtain⟨bR,bQ⟩:=aE.o k' rfl;obtain⟨vb,vo,rfl,bT⟩:=v3 ac;have cv:=bT k' _ (AH cL f);have cM:decide ((0:Int)<=(k':Int))=true:=ag;have ca:=(aL.o.ex.trans aP.o).cell HA.o;have j1:(0:Int)<=(k':Int):=ac;have j2:(k':Int)<(t:Int):=ac;have bJ:=Aa (fun (w1:World) (h1:Ex w w1)=>cU.o w1 h1 (f k'));obtain⟨IV,aU,aN⟩:∃c:Nat,(∃e2,Pk p m ml (AA (p^m) (f k'))= .tuple #[.int .i64 (c:Nat),e2])/\AA (p^m) (c:Int)=Zk p m ml (AA (p^m) (f k')):=by
     unfold Pk Zk;by_cases h0:AA (p^m) (f k')=0
     .rw[if_pos h0,if_pos h0];exact⟨0,⟨_,rfl⟩,Dt _⟩
     .rw[if_neg h0,if_neg h0];exact⟨_,⟨_,rfl⟩,Bu (Qs HQ.o _)⟩
    obtain⟨e2,aU⟩:=aU;rw[aU]at bJ;have cB:=Aa bR;have cN:=Aa bQ;rw[<-aN]at cB;have aB:=Aa (aL.o.later aP.o);have cW:=Aa ca;have cV:=Aa cv;clear hz0 aU aN v3 bT aX bR bQ aE aV aL aP;go_wp2_with fail
    go_region_held3 (fun w'=>w'.cell? ⟨A,0,none⟩=some (.pointer (some ⟨b,0,none⟩))/\w'.cell? ⟨vb,vo+k',none⟩=some (.int .i64 (f k')))
     (first|exact⟨cW.o,cV.o⟩)
     (first|(go_at_call 250;(with_reducible refine(bJ.o _ aB.o.ex.drew).mono ?_);rintro e w4⟨rfl,n4,rfl⟩))
    obtain⟨w4,bA⟩:=nA (w3.drewN (1+n4));have aO:=Aa (show Ex w3 w4 from by rw[<-bA];exact(Ex.refl w3).drewN _)
    try simp only[bA]
    clear bA ca cv bJ;have aA:=Aa (aB.o.later aO.o);have cO:=Aa (bF.o.ex aO.o);have ca:=(aA.o.ex).cell HA.o;have t1:=aA.o.c1;have T1F:=Aa aA.o.f1;obtain⟨qa,qc,cI⟩:=Ac aA.o.rows.cvo;subst cI;have aJ:=Aa (fun (w1:World) (h1:Ex w4 w1)=>cQ.o w1 (aA.o.ex.trans h1) (IV:Int) f _ (by
     have:=cO.o.ex h1;exact this))
    have G0:Ex w4 w4.drew:=(Ex.refl w4).drew;have bD:(AM t e.n e.a).length=e.n:=Cc _ _ _;rw[bD]at t1;have aS:=Aa bD;have aF:=Aa (show e.n<=k from cD.o);have bG:=Aa t1;clear aB bF bD;go_upto_region 8 with fail
    go_cut [10] from 44 to 70 (fun s10 wx=>∃bO bN aG,Hia (Lp w wx E b (AM t e.n e.a ++ [il t (CR p m ml (AA (p^m) (IV:Int)) f)]) (il e.n fun i=>(e.pl i:Int)) (.slice bO (e.n+1) bN) pv aG))
    case first=>
     have aI:=Aa G0
     go_region_law
      ((first
              | (refine BI bj _ _ _ bj (E+1) 22 (.slice none 0 0) 1 24 Tryz.underlying37 Bz rfl ae (.slice qa e.n qc) e.n vals bj (by have h:=Ai aA.o.rows.cvo ((aI.o.trans aK).trans (AI w5 (.cells #[.slice (some ⟨g5,0,none⟩) t t] 22)));rw[aS.o]at h;exact h) _ 1 [.slice (some ⟨g5,0,none⟩) t t] bj (Sl.own (DQ w5 (.slice (some ⟨g5,0,none⟩) t t) 22)) ak (by have:=aF.o;unfold maxLen;omega) (by have:=aF.o;omega) (by have:=cS.o;simp;omega) ?_;intro v8 w8 aC bZ cA;have bK:=Aa (Uk (by have h:=Ai aA.o.rows.cvo (aI.o.trans aK);rw[aS.o]at h;exact h) aC bZ cA);obtain⟨bM,aW⟩:=(aA.o.later (aI.o.trans aK)).at1 (by rw[aS.o];exact bK.o);rw[aS.o]at bM;obtain⟨cG,cF,bB⟩:=Ac aC;subst bB)
              | (go_simp;refine(aJ.o _ aI.o).mono ?_;rintro e w5⟨g5,rfl,aT,aK⟩;have t1:=aK.cell (show w4.drew.cell? ⟨E,1,none⟩=some (.slice qa e.n qc) from bG.o);have cH:=(AI w5 (.cells #[.slice (some ⟨g5,0,none⟩) t t] 22)).cell t1;have cS:=Aa (show E+1<=w5.heap.size from by have h1:=aT.lt;have h2:=World.block_lt_of_cell? _ _ t1;exact h2);go_simp)))
     all_goals
      have aM:=aI.o.trans aK;have aQ:=aA.o.later aM;have bY:w5.ownsRow (E+1) 3 1 (.slice (some ⟨g5,0,none⟩) t t) (il t (CR p m ml (AA (p^m) (IV:Int)) f)).length (Am (il t (CR p m ml (AA (p^m) (IV:Int)) f))):=by
       rw[AY,Ch];exact Bt aT (World.block_lt_of_cell? _ _ (aI.o.cell bG.o))
      have bE:∀v2 (e2:TypeId) (n2:Nat) bL,w4.ownsRow (E+1) e2 1 v2 n2 bL->AJ (.slice (some ⟨g5,0,none⟩) t t) v2:=fun v2 e2 n2 bL h=>by
       right;show some g5≠_
       intro e;have h1:=(h.lt g5 e.symm).2;have h2:=aT.lt.1;have h3:=aI.o.size;omega
      have cR:=Aa (aQ.app1 bY (bE _ _ _ _ aA.o.rows.cvo) (bE _ _ _ _ aA.o.plc) (by rw[aS.o];exact bK.o));clear aQ bY bE aM bM aW t1 cH bK aC bZ cA aT aK aJ;go_wp2_with fail
      go_meet
      exact⟨_,_,_,cR⟩
    case rest=>
     obtain⟨bO,bN,aG,hc⟩:=hcut;have t2:=hc.o.c2;have T2F:=Aa hc.o.f2;obtain⟨pa,pc,cJ⟩:=Ac hc.o.plc;subst cJ;rw[AY]at t2;have cP:=Aa (show E+1<=wc.heap.size from World.block_lt_of_cell? _ _ t2);have HC:=Aa hc.o;have cE:=Aa (AY e.n fun i=>(e.pl i:Int));have cC:=Aa (show wc.ownsRow (E+1) 3 1 (.slice pa e.n pc) e.n (Am (il e.n fun i=>(e.pl i:Int))) from by
      have h:=hc.o.plc;rw[AY]at h;exact h)
     clear hc t1 ca G0 bG aJ aA;go_wp2_with (at_builtin;refine Al _ rfl _ _ 22 rfl (E+1) 3 (.int .i64 0) 1 8 Tryz.underlying22 Aw rfl ae _ e.n _ rfl cC.o [.int .i64 k'] 3 _ rfl ag rfl ak (by have:=aF.o;unfold maxLen;omega) (by have:=aF.o;omega) cP.o ?_)
     intro v8 w8 aH;have aD:A8 wc w8 (E+1) 3 1 (.slice pa (il e.n fun i=>(e.pl i:Int)).length pc) v8 (il e.n fun i=>(e.pl i:Int)).length (Am (il e.n fun i=>(e.pl i:Int))) [.int .i64 k']:=by
      rw[cE.o];exact aH
     obtain⟨aW,t3y⟩:=HC.o.at2 aD;rw[cE.o]at aW;have bH:=Aa (HC.o.app2 aD);rw[<-cB.o,<-cN.o]at bH;obtain⟨cG,cF,bB⟩:=Ac aH.own;subst bB;clear aH aD HC cC;go_wp2_with fail
     go_roundw
     case rel=>first|exact⟨k+1,_,_,_,ac,by go_num,bH⟩|((repeat apply Exists.intro);exact⟨⟨k+1,_,_,_,ac,by go_num,bH⟩,rfl⟩)
     case measure=>simp[intOf];omega
   .have bP:z=-1:=by omega
    have cM:decide ((0:Int)<=z)=false:=al;have bX:=aV.o bP;have aB:=Aa (aL.o.later aP.o);rw[<-bX]at aB;clear hz0 bP aX bX aE aV aL aP v3;go_wp2_with fail
    go_roundw
    case rel=>exact⟨k+1,_,_,_,ac,by go_num,aB⟩
    case measure=>simp[intOf];omega
  .obtain rfl:k=R:=by omega
   go_wp2_with fail
   go_ret;exact⟨E,rv,pv,rfl,Bf.o.at,Bf.o.ex⟩
end
end
end Go.Proofs.YtehieobniamagaaGreat
