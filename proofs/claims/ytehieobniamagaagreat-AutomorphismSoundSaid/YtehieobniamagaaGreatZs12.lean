/- Walk of the echelon's reduce. -/
import Derived.Test.YtehieobniamagaaGreatZs11
namespace Go.Proofs.YtehieobniamagaaGreat
open Go.RowKit
set_option linter.all false
set_option maxRecDepth 100000
set_option maxHeartbeats 4000000
structure Gf(w:World)(E b t:Nat)(e:Mh)(rv pv:Value):Prop where
 c0:w.cell? (E,0)=some (.pointer (some (b,0)))
 c1:w.cell? (E,1)=some rv
 c2:w.cell? (E,2)=some pv
 rows:BZ w rv (Aw t e.n e.a)
 plc:Al w pv (il e.n fun i=>(e.pl i:Int))
theorem Gf.ex{w w':World}{E b t:Nat}{e:Mh}{rv pv:Value}(h:Gf w E b t e rv pv)(hx:Ex w w'):Gf w' E b t e rv pv:=
 ⟨hx.cell h.c0,hx.cell h.c1,hx.cell h.c2,h.rows.ex hx,h.plc.ex hx⟩
theorem Ul(p m:Nat)(ml:List Int)(x:Int)(u r:Nat->Int):Gt p m ml x u r 0=u:=by funext j;unfold Gt;rw[if_neg ac]
theorem Um(p m:Nat)(ml:List Int)(x:Int)(u r:Nat->Int)(c:Nat):Az (Gt p m ml x u r c) c (KT p m ml x u r c)=Gt p m ml x u r (c+1):=by
 funext j;by_cases e:j=c
 .subst e;rw[Ab];unfold Gt;rw[if_pos ac]
 .rw[Ad _ _ e];unfold Gt;by_cases h:j<c
  .exact za7
  .exact za8
theorem Un{p m:Nat}{ml:List Int}{x:Int}{u r:Nat->Int}{c:Nat}(h:r c=0):Gt p m ml x u r (c+1)=Gt p m ml x u r c:=by
 funext j;unfold Gt;by_cases e:j=c
 .subst e;rw[if_pos ac,if_neg ac];unfold KT;rw[if_pos h]
 .by_cases h:j<c
  .exact za7
  .exact za8
theorem VP{p m:Nat}{ml:List Int}{x:Int}{u r:Nat->Int}{t j:Nat}(h:j<t):Gt p m ml x u r t j=KT p m ml x u r j:=by unfold Gt;rw[if_pos h]
theorem VQ(w:World)(x:Int):
  Calls Tryz.prog 269 #[x] w fun r w'=>r= .returned (.bool (x !=0))/\Ex w w':=by
 go_enter Tryz.func269,Tryz.ntmps269
 go_wp2_with fail
 go_ret;exact⟨rfl,Ex.refl _⟩
section
variable {b p m x0:Nat} {ml:List Int}
theorem KQ(w:World)(hg:Bh w b p m ml x0)(E t:Nat)(ht:t<=1000)(e:Mh)(rv pv:Value)(hE:Gf w E b t e rv pv)(aR:∀i,i<e.n->e.pl i<t)(f:Nat->Int)(vv:Value)(hv:Al w vv (il t f)):
  Calls Tryz.prog 261 #[.pointer (some (E,0)),vv] w fun r w'=>∃v',r= .returned (.tuple #[v',.int .i64 (Mo t (e.red p m ml f))])/\Al w' v' (il t (e.red p m ml f))/\Ex w w':=by
 obtain⟨n,a,pl⟩:=e;simp only[Mh.red]at *;obtain⟨e0,e1,e2,aC,aH⟩:=hE;simp only at e1 e2 aC aH aR;obtain⟨ra,rc,rfl,r1,r2,r3⟩:=aC.open;obtain⟨pa,pc,rfl,p1,p2,p3⟩:=aH.open;rw[AZ]at r1 r3 e1;rw[AL]at p1 p3 e2;unfold maxLen at r2 p2;obtain⟨R3,P3,E0,E1,E2,bT,HG⟩:=OK r3 p3 e0 e1 e2 aR hg;by_cases ht0:t=0
 .subst ht0;have bP:n=0:=by
   by_cases h:n=0
   .exact h
   .exact absurd (aR 0 ac) ac
  subst bP;have aN:=Aa (Gc w (il 0 f) vv hv (by simp[il]));clear hv hg aC aH r3 p3 aR;have aT:NX p m ml a pl f 0=f:=rfl;rw[aT];go_enter Tryz.func261,Tryz.ntmps261
  go_wp2_with fail
  refine aN.o.mono ?_;rintro e w1⟨v1,rfl,aW,-,aJ⟩;have bG:=aJ.cell E1.o;have bI:=Aa aW;have aT:=Aa aJ;obtain⟨va,vc,rfl,-,-,-⟩:=aW.open;clear aW aJ;go_wp2_with fail
  go_loopw [18] (fun i' wr=>i'= .int .i64 0/\wr=w1) (fun i' _=>0)
  case atStart=>exact⟨rfl,rfl⟩
  case round=>
   obtain⟨rfl,rfl⟩:=hrel;have aZ:=Aa (Hn wr (.slice va (il 0 f).length vc) 0 [] (by simpa[Al,il,Ao]using bI.o) (fun j=>f j !=0) (fun w1 i u h1 hu=>by simp at hu));go_wp2_with fail
   refine aZ.o.mono ?_;rintro e w2⟨rfl,aO⟩;have aK:=Aa aO;clear aO;go_wp2_with fail
   go_ret2;exact⟨_,rfl,bI.o.ex aK.o,aT.o.trans aK.o⟩
 .obtain⟨aN,bJ,bM,bU⟩:=Eq (JH w (il t f) vv hv (by rw[AL];omega) (by rw[AL];omega)) (fun (w1:World) (h1:Ex w w1) (y z:Int)=>Sub_any w1 (HG.o.ex h1) y z) (fun (w1:World) (h1:Ex w w1) (y z:Int)=>Fa w1 (HG.o.ex h1) y z) hg.sh.p2;obtain⟨K,hK⟩:=nA (NX p m ml a pl f);have bX:=Aa (show K 0=f from by rw[<-hK];rfl);have bW:=Aa (fun k=>show K (k+1)=Mm p m ml (K k) (pl k) (a k) from by rw[<-hK];rfl);rw[hK];rw[AL]at aN;obtain⟨va,vc,rfl,-,-,-⟩:=hv.open;rw[AL]at aN ⊢;clear hv hg aC aH r3 p3 aR hK;go_enter Tryz.func261,Tryz.ntmps261
  go_wp2_with fail
  refine aN.o.mono ?_;rintro e w1⟨g,cap,rfl,bE,aJ⟩;have bG:=aJ.cell E1.o;have bL:=Aa (show A9 w1 w.heap.size 3 g t cap (iv (K 0)) from bE.icongr fun j hj=>by
   rw[bX.o];exact GP hj f)
  have aT:=Aa aJ;clear bE aJ;go_wp2_with fail
  go_loopw [18] (fun i' wr=>∃i:Nat,i<=n/\i'= .int .i64 i/\Hia (A9 wr w.heap.size 3 g t cap (iv (K i)))/\Hia (Ex w wr)) (fun i' _=>n-(intOf i').toNat)
  case atStart=>exact⟨0,ac,rfl,bL,aT⟩
  case round=>
   clear bL bG;obtain⟨i,hi,rfl,aA,aD⟩:=hrel;by_cases hin:i<n
   .obtain⟨rb,ro,rfl,aQ⟩:=R3.o ac;obtain⟨pb,po,rfl,bD⟩:=P3.o ac;obtain⟨uv,aP,bA⟩:=aQ i _ (Dq hin);have cu:=aD.o.cell aP;have cp:=aD.o.cell (bD i _ (AQ hin _));have d0:=aD.o.cell E0.o;have d2:=aD.o.cell E2.o;have bB:=bT.o i hin;have co:wr.cell? (g,pl i)=some (.int .i64 (K i (pl i))):=aA.o.cell bB;have i1:(0:Int)<=(i:Int):=by omega
    have i2:(i:Int)<(n:Int):=ac;have i3:(0:Int)<=(pl i:Int):=ac;have i4:(pl i:Int)<(t:Int):=ac;have aY:=Aa bA;have aE:=Aa aA.o;have aB:=Aa aD.o;have aF:=bW.o i;obtain⟨r,hr⟩:=nA (a i);rw[hr]at aY aF;obtain⟨u,hu⟩:=nA (K i);rw[hu]at aE aF co;obtain⟨pi,bC⟩:∃q,pl i=q:=⟨_,rfl⟩;rw[bC]at co aF bB i3 i4 cp;obtain⟨x,hx⟩:=nA (u pi);rw[hx]at co;unfold Mm at aF;rw[hx]at aF;obtain⟨ua,uc,rfl,u1,u2,u3⟩:=aY.o.open;rw[AL]at u1 u3 cu;unfold maxLen at u2;have U3:=Aa u3;clear bD aQ aP bA u3 hr hu bC aA aD aY;by_cases h0:x=0
    .rw[if_pos h0]at aF;have bS:(x !=0)=false:=by simp[h0]
     have aI:=Aa (show A9 wr w.heap.size 3 g t cap (iv (K (i+1))) from by rw[aF];exact aE.o);clear h0 hx aF;go_wp2_with fail
     go_roundw
     case rel=>exact⟨i+1,ac,by go_num,aI,aB⟩
     case measure=>simp[intOf];omega
    .rw[if_neg h0]at aF;have bS:(x !=0)=true:=by simpa using h0
     have bN:=Aa aF;clear h0 hx aF;go_wp2_with fail
     obtain⟨w8,aU⟩:∃w8,w8=wr:=⟨_,rfl⟩;have aM:=Aa aB.o;rw[<-aU]at aM;obtain⟨bK,bV,HWW,U8⟩:=Eq (show A9 w8 w.heap.size 3 g t cap (iv (Gt p m ml x u r 0)) from by rw[Ul,aU];exact aE.o) (show ∀w',Ex w w'->w'.cell? (E,0)=some (.pointer (some (b,0))) from fun w' h=>h.cell E0.o) (aU ▸ aB.o) (show 0<t->∃bH o,ua=some ⟨bH,o,none⟩/\∀(j:Nat) (x:Int),(il t r)[j]?=some x->w.cell? ⟨bH,o+j,none⟩=some (.int .i64 x) from U3.o);subst aU;clear co cp cu d0 d2 aE aB
     go_loopw [37] (fun c' wr=>∃c:Nat,c<=t/\c'= .int .i64 c/\Hia (A9 wr w.heap.size 3 g t cap (iv (Gt p m ml x u r c)))/\Hia (Ex w wr)) (fun c' _=>t-(intOf c').toNat)
     case atStart=>exact⟨0,ac,rfl,bK,aM⟩
     case round=>
      clear bK aM;obtain⟨c,hc,rfl,aA,aD⟩:=hrel;by_cases hct:c<t
      .obtain⟨ub,uo,rfl,aP⟩:=U8.o ac;have d1:=aD.o.cell (aP c (r c) (AQ hct r));have j1:(0:Int)<=(c:Int):=by omega
       have j2:(c:Int)<(t:Int):=ac;have aB:=Aa aD.o;have aE:=Aa aA.o;clear aP aA aD;by_cases hr0:r c=0
       .have bF:(r c !=0)=false:=by simp[hr0]
        have aI:=Aa (show A9 wr w.heap.size 3 g t cap (iv (Gt p m ml x u r (c+1))) from by rw[Un hr0];exact aE.o);clear hr0 aE;go_wp2_with fail
        go_roundw
        case rel=>exact⟨c+1,ac,by go_num,aI,aB⟩
        case measure=>simp[intOf];omega
       .have bF:(r c !=0)=true:=by simpa using hr0
        have bR:wr.cell? (g,c)=some (.int .i64 (u c)):=by
         rw[aE.o.cell hct];show some (Value.int .i64 (Gt p m ml x u r c c))=_;unfold Gt;rw[if_neg ac]
        have bQ:=aE.o.frz c;have d0:=bV.o _ aB.o;obtain⟨K1,aV⟩:∃K,Ai p m (lw ml) (Ar (p^m) x) (Ar (p^m) (r c))=K:=⟨_,rfl⟩;have aS:K1<p^m:=by rw[<-aV];exact AY (by have:=bU.o;omega) _ _
        have aG:=Aa (fun w' (h:Ex w w')=>bM.o w' h x (r c));rw[aV]at aG;obtain⟨K2,aX⟩:∃K,AG p m (Ar (p^m) (u c)) (CH p m (Ar (p^m) (K1:Nat)))=K:=⟨_,rfl⟩;have aL:=Aa (fun w' (h:Ex w w')=>bJ.o w' h (u c) (K1:Nat));rw[aX]at aL;have bO:=Aa (show KT p m ml x u r c=(K2:Nat) from by
         unfold KT;rw[if_neg hr0,aV,<-aX,Ay aS])
        obtain⟨rc,aQ⟩:∃y,r c=y:=⟨_,rfl⟩;rw[aQ]at bF d1 aG;clear aV aX aS hr0 aQ;have aI:=Aa (fun n=>show A9 ((wr.drewN n).setCell (g,c) (.int .i64 (K2:Nat))) w.heap.size 3 g t cap (iv (Gt p m ml x u r (c+1))) from by
         have:=(aE.o.drewN n).set c (.int .i64 (K2:Nat));rw[CC,<-bO.o,Um]at this;rw[<-bO.o];exact this)
        have aK:=Aa (fun n=>(aE.o.drewN n).exSet (a:=w) (Nat.le_refl _) (aB.o.drewN n) c (.int .i64 (K2:Nat)));have G0:Ex w wr.drew:=aB.o.drewN 1;clear aE;go_upto_region 11 with fail
        go_region_law
          ((first
                      | (go_simp;go_at_call 106;(with_reducible refine(aG.o _ (aB.o.drewN _)).mono ?_);rintro e wx1⟨rfl,n1,rfl⟩)
                      | (go_simp;go_at_call 106;(with_reducible refine(aG.o _ G0).mono ?_);rintro e wx1⟨rfl,n1,rfl⟩)
                      | (go_simp;go_at_call 268;(with_reducible refine(aL.o _ (aB.o.drewN _)).mono ?_);rintro e wx2⟨rfl,n2,rfl⟩)))
        all_goals
         clear aG aL G0 bR bQ bJ bM aN bN d0 d1;go_wp2_with fail
         go_roundw
         case measure=>simp[intOf];omega
         case rel=>exact⟨c+1,ac,by go_num,Aa (aI.o _),Aa (aK.o _)⟩
      .obtain rfl:c=t:=by omega
       have aI:=Aa (show A9 wr w.heap.size 3 g c cap (iv (K (i+1))) from aA.o.icongr fun j hj=>by rw[VP hj,bN.o]);have aB:=Aa aD.o;clear aA aD;go_wp2_with fail
       go_roundw
       case rel=>first|exact⟨i+1,ac,by go_num,aI,aB⟩|((repeat apply Exists.intro);exact⟨⟨i+1,ac,by go_num,aI,aB⟩,rfl⟩)
       case measure=>simp[intOf];omega
   .obtain rfl:i=n:=by omega
    have aE:=Aa aA.o;have aB:=Aa aD.o;have aZ:=Aa (Hn wr (.slice (some ⟨g,0,none⟩) t cap) t _ aA.o.sl (fun j=>K i j !=0) (fun w1 j u h1 hu=>by
     have hj:j<t:=by
      have:=(List.getElem?_eq_some_iff.1 hu).1;rw[Bm]at this;exact this
     rw[Dk hj]at hu;injection hu with hu;subst hu;exact VQ w1 (K i j)))
    clear aA aD;go_wp2_with fail
    refine aZ.o.mono ?_;rintro e w2⟨rfl,aO⟩;have aK:=Aa aO;clear aO;go_wp2_with fail
    go_ret2;exact⟨_,rfl,(aE.o.ex aK.o).isl,aB.o.trans aK.o⟩
end
theorem BD.other{w w':World}{base b2:Nat}{e2:TypeId}{s2 n:Nat}{cv pv pv':Value}{M:List (List Int)}{vals xs news:List Value}(h:BD w base cv M vals)(ha:Bv w w' b2 e2 s2 pv pv' n xs news)(hc:AR cv pv)(hv:∀u∈vals,AR u pv):
  BD w' base cv M vals/\AR cv pv'/\∀u∈vals,AR u pv':=by
 have hn:=h.len;have h0:=ha.row h.cvo hc;refine⟨⟨h0.1,fun i r u h1 h2=>(ha.row (h.row i r u h1 h2) (hv u (List.mem_of_getElem? h2))).1,h.apart⟩,h0.2,fun u hu=>?_⟩;obtain⟨i,hi,e⟩:=List.getElem_of_mem hu;exact(ha.row (h.row i (M[i]'ac) u (List.getElem?_eq_getElem _) au) (hv u hu)).2
structure NC(w1 wr:World)(E b:Nat)(M:List (List Int))(P:List Int)(rv pv:Value)(vals:List Value):Prop where
 c0:wr.cell? (E,0)=some (.pointer (some (b,0)))
 c1:wr.cell? (E,1)=some rv
 c2:wr.cell? (E,2)=some pv
 f1:wr.frozen? (E,1)=false
 f2:wr.frozen? (E,2)=false
 rows:BD wr (E+1) rv M vals
 plc:wr.ownsRow (E+1) 3 1 pv P.length (Ao P)
 ap:AR rv pv
 av:∀u∈vals,AR u pv
 lb:w1.heap.size<=E
 ex:Ex w1 wr
section
variable {w1 wr w':World} {E b:Nat} {M:List (List Int)} {P:List Int} {rv pv v' l:Value} {vals:List Value} {L:List Int} {x:Int}
theorem NC.later(h:NC w1 wr E b M P rv pv vals)(hx:Ex wr w'):NC w1 w' E b M P rv pv vals:=
 ⟨hx.cell h.c0,hx.cell h.c1,hx.cell h.c2,hx.frz h.c1 h.f1,hx.frz h.c2 h.f2,h.rows.ex hx,Aj h.plc hx,h.ap,h.av,h.lb,h.ex.trans hx⟩
theorem EG{w:World}{e:TypeId}{s n:Nat}{v:Value}{xs:List Value}(h:w.ownsRow (E+1) e s v n xs):v.ownBlock≠some E:=fun e=>by
 have:=(h.lt E e).1;omega
theorem NC.at1(h:NC w1 wr E b M P rv pv vals)(ha:Bv wr w' (E+1) 22 1 rv v' M.length vals [l]):w'.cell? (E,1)=some rv/\w'.frozen? (E,1)=false:=
 ⟨ha.cell h.c1 (fun e=>EG h.rows.cvo e.symm),ha.frz h.c1 h.f1 (fun e=>EG h.rows.cvo e.symm)⟩
theorem za4{P:Prop}(h:P:=by
 rw[Ag (by decide)];exact ha.cell h.c0 aA):P:=h
theorem NC.app1(h:NC w1 wr E b M P rv pv vals)(hl:wr.ownsRow (E+1) 3 1 l L.length (Ao L))(h1:AR l rv)(h2:AR l pv)(ha:Bv wr w' (E+1) 22 1 rv v' M.length vals [l]):
  NC w1 (w'.setCell (E,1) v') E b (M ++ [L]) P v' pv (vals ++ [l]):=by
 have aA:some E≠rv.ownBlock:=fun e=>EG h.rows.cvo e.symm;have hm:=h.rows.app hl h1 ha;have hr:=ha.row h.plc h.ap.symm;refine⟨?_,World.cell?_setCell_same _ _ _ (ha.cell h.c1 aA),?_,?_,?_,hm.setNe (a:=⟨E,1,none⟩) (by show E<E+1;omega) v',?_,hr.2.symm,?_,h.lb,(ha.ex h.ex (by have:=h.lb;omega)).setCell (p:=⟨E,1,none⟩) h.lb _⟩
 .exact za4
 .rw[Ag ae];exact ha.cell h.c2 aA
 .rw[Ax];exact ha.frz h.c1 h.f1 aA
 .rw[Ax];exact ha.frz h.c2 h.f2 aA
 .exact Ac (a:=⟨E,1,none⟩) hr.1 (EG h.plc) v'
 .intro u hu;rcases List.mem_append.1 hu with hu|hu
  .exact h.av u hu
  .simp at hu;subst hu;exact h2
theorem NC.at2(h:NC w1 wr E b M P rv pv vals)(ha:Bv wr w' (E+1) 3 1 pv v' P.length (Ao P) [.int .i64 x]):w'.cell? (E,2)=some pv/\w'.frozen? (E,2)=false:=
 ⟨ha.cell h.c2 (fun e=>EG h.plc e.symm),ha.frz h.c2 h.f2 (fun e=>EG h.plc e.symm)⟩
theorem NC.app2(h:NC w1 wr E b M P rv pv vals)(ha:Bv wr w' (E+1) 3 1 pv v' P.length (Ao P) [.int .i64 x]):
  NC w1 (w'.setCell (E,2) v') E b M (P ++ [x]) rv v' vals:=by
 have aA:some E≠pv.ownBlock:=fun e=>EG h.plc e.symm;obtain⟨hm,aC,aB⟩:=h.rows.other ha h.ap h.av;have ho:w'.ownsRow (E+1) 3 1 v' (P ++ [x]).length (Ao (P ++ [x])):=by
  have:=ha.own;rw[List.length_append,show Ao (P ++ [x])=Ao P ++ [.int .i64 x] from by unfold Ao;simp];exact this
 refine⟨?_,?_,World.cell?_setCell_same _ _ _ (ha.cell h.c2 aA),?_,?_,hm.setNe (a:=⟨E,2,none⟩) (by show E<E+1;omega) v',Ac (a:=⟨E,2,none⟩) ho (EG ho) v',aC,aB,h.lb,(ha.ex h.ex (by have:=h.lb;omega)).setCell (p:=⟨E,2,none⟩) h.lb _⟩
 .exact za4
 .rw[Ag ae];exact ha.cell h.c1 aA
 .rw[Ax];exact ha.frz h.c1 h.f1 aA
 .rw[Ax];exact ha.frz h.c2 h.f2 aA
theorem NC.at{t:Nat}{e:Mh}(h:NC w1 wr E b (Aw t e.n e.a) (il e.n fun i=>(e.pl i:Int)) rv pv vals):Gf wr E b t e rv pv:=
 ⟨h.c0,h.c1,h.c2,h.rows.msl,Sl.own h.plc⟩
end
theorem NC.new(w1:World)(b:Nat):NC w1 (w1.alloc (.cells #[.pointer (some (b,0)),.slice none 0 0,.slice none 0 0] 285)) w1.heap.size b [] [] (.slice none 0 0) (.slice none 0 0) [] where
 c0:=ag
 c1:=ag
 c2:=ag
 f1:=ag
 f2:=ag
 rows:=BD.nil _ _
 plc:=World.ownsRow_nil _ _ _ _
 ap:=AR.nil _
 av:=fun u h=>(List.not_mem_nil h).elim
 lb:=Nat.le_refl _
 ex:=(Ex.refl _).alloc _
theorem AI(w:World)(o:Obj):Ex w (w.alloc o):=(Ex.refl w).alloc o
theorem Xq{w w':World}{o:Obj}{base:Nat}{e:TypeId}{size:Nat}{v v':Value}{n:Nat}{xs news:List Value}(aB:w.ownsRow base e size v n xs)(aA:w'.ownsRow base e size v' (n+1) (xs++news))
  (hg:(w.alloc o).grownBy w' v.ownBlock) (ha:v'.ownBlock=v.ownBlock∨v'.ownBlock=some (w.alloc o).heap.size):Bv w w' base e size v v' n xs news:=
 ⟨aA,⟨o,hg⟩,by simpa using ha,aB⟩
theorem zaL{P:Prop}(h:P:=by
 exact List.map_congr_left fun i hi=>by
  have:=List.mem_range.1 hi;rw[Ad _ _ (by omega)]):P:=h
theorem zc3{P:Prop}(h:P:=by
 rw[List.range_succ,List.map_append]
 congr 1
 .exact zaL
 .simp[Ab]):P:=h
theorem YA{p m:Nat}{ml:List Int}{t:Nat}{e:Mh}{r:Nat->Int}{k:Nat}(h:Mo t (e.red p m ml r)=k):
  Aw t (Gr p m ml t e r).n (Gr p m ml t e r).a=Aw t e.n e.a ++ [il t (BM p m ml (ivz p m ml (Ar (p^m) (e.red p m ml r k))) (e.red p m ml r))]/\(il (Gr p m ml t e r).n fun i=>((Gr p m ml t e r).pl i:Int))=(il e.n fun i=>(e.pl i:Int)) ++ [(k:Int)]:=by
 unfold Gr;rw[if_pos ac,h];simp only[Int.toNat_natCast];constructor
 .unfold Aw;exact zc3
 .unfold il;exact zc3
theorem YC{p m:Nat}{ml:List Int}{t:Nat}{e:Mh}{r:Nat->Int}(h:Mo t (e.red p m ml r)=-1):Gr p m ml t e r=e:=by
 unfold Gr;rw[if_neg ac]
section
variable {b p m x0:Nat} {ml:List Int}
theorem Ky(w:World)(hg:Bh w b p m ml x0)(aZ:1<=x0)(aY:x0<p^m)(A:Nat)(hA:w.cell? (A,0)=some (.pointer (some (b,0))))(t R:Nat)(ht:t<=1000)(hR:R<=1000)(a:Nat->Nat->Int)(v:Value)(hv:BZ w v (Aw t R a)):
  Calls Tryz.prog 225 #[.pointer (some (A,0)),v] w fun r w'=>∃E rv pv,r= .returned (.pointer (some ⟨E,0,none⟩))/\Gf w' E b t (Hi p m ml t a R) rv pv/\Ex w w':=by
 obtain⟨ra,rc,rfl,r1,r2,r3⟩:=hv.open;rw[AZ]at r1 r3 ⊢;unfold maxLen at r2;obtain⟨R3,HA,HG,cU,cQ,cT,HQ⟩:=OK r3 hA hg (fun (w1:World) (h1:Ex w w1) (y:Int)=>TZ w1 (hg.ex h1) aZ aY y) (fun (w1:World) (h1:Ex w w1) (c:Int) (f:Nat->Int) (uv:Value) (hu:Al w1 uv (il t f))=>Nx w1 (hg.ex h1) t f c uv hu ht) (fun (w1:World) (h1:Ex w w1) (E:Nat) (e:Mh) (rv pv:Value) (hE:Gf w1 E b t e rv pv) (cK:∀i,i<e.n->e.pl i<t) (f:Nat->Int) (vv:Value) (hu:Al w1 vv (il t f))=>KQ w1 (hg.ex h1) E t ht e rv pv hE cK f vv hu) (show 1<=p^m from ac);clear hv r3 hg;go_enter Tryz.func225,Tryz.ntmps225
 go_wp2_with fail
 obtain⟨E,hE⟩:=nA w.heap.size;have bI:=Aa (NC.new w b)
 try simp only[hE]
 rw[hE]at bI;have HEW:=Aa hE;generalize w.alloc (.cells #[.pointer (some ⟨b,0,none⟩),.slice none 0 0,.slice none 0 0] 285)=w2 at *;clear hE
 go_loopw [20] (fun i' wr=>∃(k:Nat) (rv pv:Value) (vals:List Value),k<=R/\i'= .int .i64 k/\Hia (NC w wr E b (Aw t (Hi p m ml t a k).n (Hi p m ml t a k).a) (il (Hi p m ml t a k).n fun i=>((Hi p m ml t a k).pl i:Int)) rv pv vals)) (fun i' _=>R-(intOf i').toNat)
 case atStart=>exact⟨0,_,_,_,ac,rfl,bI⟩
 case round=>
  clear bI;obtain⟨k,rv,pv,vals,hk,rfl,BC⟩:=hrel;by_cases hkR:k<R
  .obtain⟨rb,ro,rfl,bW⟩:=R3.o ac;obtain⟨uv,bV,bU⟩:=bW k _ (Dq hkR);have cu:=BC.o.ex.cell bV;have i1:(0:Int)<=(k:Int):=by omega
   have i2:(k:Int)<(R:Int):=ac;obtain⟨aL,aJ,cD,aR⟩:=Eq BC.o (show Hi p m ml t a (k+1)=Gr p m ml t (Hi p m ml t a k) (a k) from rfl) (spn_n (p:=p) (m:=m) (ml:=ml) t a k) (cT.o wr BC.o.ex E (Hi p m ml t a k) rv pv BC.o.at (Kx t a k) (a k) uv (bU.ex BC.o.ex));obtain⟨e,he⟩:=nA (Hi p m ml t a k);rw[he]at aL aJ aR cD;obtain⟨z,hz⟩:=nA (Mo t (e.red p m ml (a k)));have aX:=Ws t (e.red p m ml (a k));rw[hz]at aR aX;have aE:=Aa (fun k' (h:z=(k':Nat))=>YA (p:=p) (m:=m) (ml:=ml) (t:=t) (e:=e) (r:=a k) (hz.trans h));have aV:=Aa (fun (h:z=-1)=>YC (p:=p) (m:=m) (ml:=ml) (t:=t) (e:=e) (r:=a k) (hz.trans h));obtain⟨f,hf⟩:=nA (e.red p m ml (a k));rw[hf]at aR aE;rw[<-aJ.o]at aE aV;clear bW bV bU BC he hz hf aJ;go_wp2_with fail
   refine aR.o.mono ?_;rintro e' w3⟨v3,rfl,bC,bS⟩;have bF:=Aa bC;have aP:=Aa bS;clear bS aR;obtain⟨va,vc,rfl,-,v2,v3⟩:=bC.open;rw[AL]at v3 bF ⊢;clear bC;by_cases hz0:0<=z
   .obtain⟨k',rfl⟩:=Int.eq_ofNat_of_zero_le hz0;have cL:k'<t:=by omega
    obtain⟨bR,bQ⟩:=aE.o k' rfl;obtain⟨vb,vo,rfl,bT⟩:=v3 ac;have cv:=bT k' _ (AQ cL f);have cM:decide ((0:Int)<=(k':Int))=true:=ag;have ca:=(aL.o.ex.trans aP.o).cell HA.o;have j1:(0:Int)<=(k':Int):=ac;have j2:(k':Int)<(t:Int):=ac;have bJ:=Aa (fun (w1:World) (h1:Ex w w1)=>cU.o w1 h1 (f k'));obtain⟨IV,aU,aN⟩:∃c:Nat,(∃e2,RU p m ml (Ar (p^m) (f k'))= .tuple #[(c:Nat),e2])/\Ar (p^m) (c:Int)=ivz p m ml (Ar (p^m) (f k')):=by
     unfold RU ivz;by_cases h0:Ar (p^m) (f k')=0
     .rw[if_pos h0,if_pos h0];exact⟨0,⟨_,rfl⟩,Cf _⟩
     .rw[if_neg h0,if_neg h0];exact⟨_,⟨_,rfl⟩,Ay (Kg HQ.o _)⟩
    obtain⟨e2,aU⟩:=aU;rw[aU]at bJ;have cB:=Aa bR;have cN:=Aa bQ;rw[<-aN]at cB;have aB:=Aa (aL.o.later aP.o);have cW:=Aa ca;have cV:=Aa cv;clear hz0 aU aN v3 bT aX bR bQ aE aV aL aP;go_wp2_with fail
    go_region_held3 (fun w'=>w'.cell? (A,0)=some (.pointer (some (b,0)))/\w'.cell? (vb,vo+k')=some (.int .i64 (f k')))
     (first|exact⟨cW.o,cV.o⟩)
     (first|(go_at_call 250;(with_reducible refine(bJ.o _ aB.o.ex.drew).mono ?_);rintro e w4⟨rfl,n4,rfl⟩))
    obtain⟨w4,bA⟩:=nA (w3.drewN (1+n4));have aO:=Aa (show Ex w3 w4 from by rw[<-bA];exact(Ex.refl w3).drewN _)
    try simp only[bA]
    clear bA ca cv bJ;have aA:=Aa (aB.o.later aO.o);have cO:=Aa (bF.o.ex aO.o);have ca:=(aA.o.ex).cell HA.o;have t1:=aA.o.c1;have T1F:=Aa aA.o.f1;obtain⟨qa,qc,cI⟩:=Ae aA.o.rows.cvo;subst cI;have aJ:=Aa (fun (w1:World) (h1:Ex w4 w1)=>cQ.o w1 (aA.o.ex.trans h1) (IV:Int) f _ (by
     have:=cO.o.ex h1;exact this))
    have G0:Ex w4 w4.drew:=(Ex.refl w4).drew;have bD:(Aw t e.n e.a).length=e.n:=AZ _ _ _;rw[bD]at t1;have aS:=Aa bD;have aF:=Aa (show e.n<=k from cD.o);have bG:=Aa t1;clear aB bF bD;go_upto_region 8 with fail
    go_cut [10] from 44 to 70 (fun s10 wx=>∃bO bN aG,Hia (NC w wx E b (Aw t e.n e.a ++ [il t (BM p m ml (Ar (p^m) (IV:Int)) f)]) (il e.n fun i=>(e.pl i:Int)) (.slice bO (e.n+1) bN) pv aG))
    case first=>
     have aI:=Aa G0
     go_region_law
      ((first
              | (refine Co bp _ _ _ bp (E+1) 22 (.slice none 0 0) 1 24 Tryz.underlying37 BU rfl ae (.slice qa e.n qc) e.n vals bp (by have h:=Aj aA.o.rows.cvo ((aI.o.trans aK).trans (AI w5 (.cells #[.slice (some ⟨g5,0,none⟩) t t] 22)));rw[aS.o]at h;exact h) _ 1 [.slice (some ⟨g5,0,none⟩) t t] bp (Sl.own (Ft w5 (.slice (some ⟨g5,0,none⟩) t t) 22)) aj (by have:=aF.o;unfold maxLen;omega) (by have:=aF.o;omega) (by have:=cS.o;simp;omega) ?_;intro v8 w8 aC bZ cA;have bK:=Aa (Xq (by have h:=Aj aA.o.rows.cvo (aI.o.trans aK);rw[aS.o]at h;exact h) aC bZ cA);obtain⟨bM,aW⟩:=(aA.o.later (aI.o.trans aK)).at1 (by rw[aS.o];exact bK.o);rw[aS.o]at bM;obtain⟨cG,cF,bB⟩:=Ae aC;subst bB)
              | (go_simp;refine(aJ.o _ aI.o).mono ?_;rintro e w5⟨g5,rfl,aT,aK⟩;have t1:=aK.cell (show w4.drew.cell? (E,1)=some (.slice qa e.n qc) from bG.o);have cH:=(AI w5 (.cells #[.slice (some ⟨g5,0,none⟩) t t] 22)).cell t1;have cS:=Aa (show E+1<=w5.heap.size from by have h1:=aT.lt;have h2:=World.block_lt_of_cell? _ _ t1;exact h2);go_simp)))
     all_goals
      have aM:=aI.o.trans aK;have aQ:=aA.o.later aM;have bY:w5.ownsRow (E+1) 3 1 (.slice (some ⟨g5,0,none⟩) t t) (il t (BM p m ml (Ar (p^m) (IV:Int)) f)).length (Ao (il t (BM p m ml (Ar (p^m) (IV:Int)) f))):=by
       rw[AL,Cu];exact Bj aT (World.block_lt_of_cell? _ _ (aI.o.cell bG.o))
      have bE:∀v2 (e2:TypeId) (n2:Nat) bL,w4.ownsRow (E+1) e2 1 v2 n2 bL->AR (.slice (some ⟨g5,0,none⟩) t t) v2:=fun v2 e2 n2 bL h=>by
       right;show some g5≠_
       intro e;have h1:=(h.lt g5 e.symm).2;have h2:=aT.lt.1;have h3:=aI.o.size;omega
      have cR:=Aa (aQ.app1 bY (bE _ _ _ _ aA.o.rows.cvo) (bE _ _ _ _ aA.o.plc) (by rw[aS.o];exact bK.o));clear aQ bY bE aM bM aW t1 cH bK aC bZ cA aT aK aJ;go_wp2_with fail
      go_meet
      exact⟨_,_,_,cR⟩
    case rest=>
     obtain⟨bO,bN,aG,hc⟩:=hcut;have t2:=hc.o.c2;have T2F:=Aa hc.o.f2;obtain⟨pa,pc,cJ⟩:=Ae hc.o.plc;subst cJ;rw[AL]at t2;have cP:=Aa (show E+1<=wc.heap.size from World.block_lt_of_cell? _ _ t2);have HC:=Aa hc.o;have cE:=Aa (AL e.n fun i=>(e.pl i:Int));have cC:=Aa (show wc.ownsRow (E+1) 3 1 (.slice pa e.n pc) e.n (Ao (il e.n fun i=>(e.pl i:Int))) from by
      have h:=hc.o.plc;rw[AL]at h;exact h)
     clear hc t1 ca G0 bG aJ aA;go_wp2_with (at_builtin;refine Am _ rfl _ _ 22 rfl (E+1) 3 (.int .i64 0) 1 8 Tryz.underlying22 AC rfl ae _ e.n _ rfl cC.o [.int .i64 k'] 3 _ rfl ag rfl aj (by have:=aF.o;unfold maxLen;omega) (by have:=aF.o;omega) cP.o ?_)
     intro v8 w8 aH;have aD:Bv wc w8 (E+1) 3 1 (.slice pa (il e.n fun i=>(e.pl i:Int)).length pc) v8 (il e.n fun i=>(e.pl i:Int)).length (Ao (il e.n fun i=>(e.pl i:Int))) [.int .i64 k']:=by
      rw[cE.o];exact aH
     obtain⟨aW,t3y⟩:=HC.o.at2 aD;rw[cE.o]at aW;have bH:=Aa (HC.o.app2 aD);rw[<-cB.o,<-cN.o]at bH;obtain⟨cG,cF,bB⟩:=Ae aH.own;subst bB;clear aH aD HC cC;go_wp2_with fail
     go_roundw
     case rel=>first|exact⟨k+1,_,_,_,ac,by go_num,bH⟩|((repeat apply Exists.intro);exact⟨⟨k+1,_,_,_,ac,by go_num,bH⟩,rfl⟩)
     case measure=>simp[intOf];omega
   .have bP:z=-1:=by omega
    have cM:decide ((0:Int)<=z)=false:=aq;have bX:=aV.o bP;have aB:=Aa (aL.o.later aP.o);rw[<-bX]at aB;clear hz0 bP aX bX aE aV aL aP v3;go_wp2_with fail
    go_roundw
    case rel=>exact⟨k+1,_,_,_,ac,by go_num,aB⟩
    case measure=>simp[intOf];omega
  .obtain rfl:k=R:=by omega
   go_wp2_with fail
   go_ret;exact⟨E,rv,pv,rfl,BC.o.at,BC.o.ex⟩
end
section
variable {b p m x0:Nat} {ml:List Int}
theorem Ob(w:World)(hg:Bh w b p m ml x0)(B E t:Nat)(ht:t<=1000)(e:Mh)(rv pv:Value)(hE:Gf w E b t e rv pv)(aB:∀i,i<e.n->e.pl i<t)(f:Nat->Int)(uv:Value)(hu:Al w uv (il t f))(c0:w.cell? (B,0)=some (.pointer (some (E,0)))):
  Calls Tryz.prog 262 #[uv,.pointer (some (B,0))] w fun r w'=>r= .returned (.bool (decide (0<=Mo t (e.red p m ml f))))/\Ex w w':=by
 have HR:=Aa (KQ w hg E t ht e rv pv hE aB f uv hu);obtain⟨z,hz⟩:=nA (Mo t (e.red p m ml f));rw[hz]at HR ⊢;clear hg hE hu hz aB;go_enter Tryz.func262,Tryz.ntmps262
 go_wp2_with fail
 refine HR.o.mono ?_;rintro e' w1⟨v1,rfl,-,aA⟩;have HX:=Aa aA;clear aA;exact zdi
theorem Gw(w:World)(hg:Bh w b p m ml x0)(E t:Nat)(ht:t<=1000)(e:Mh)(rv pv:Value)(hE:Gf w E b t e rv pv)(aB:∀i,i<e.n->e.pl i<t)(R:Nat)(a:Nat->Nat->Int)(v:Value)(hv:BZ w v (Aw t R a)):
  Calls Tryz.prog 226 #[.pointer (some (E,0)),v] w fun r w'=>r= .returned (.int .i64 (Jj p m ml t e a R))/\Ex w w':=by
 obtain⟨vals,hs,hr⟩:=hv;rw[AZ]at hs;have ec:Ex w (w.alloc (.cells #[.pointer (some ⟨E,0,none⟩)] 259)):=(Ex.refl _).alloc _;have c0:(w.alloc (.cells #[.pointer (some ⟨E,0,none⟩)] 259)).cell? (w.heap.size,0)=some (.pointer (some (E,0))):=ag;have aD:=Aa (MD (w.alloc (.cells #[.pointer (some ⟨E,0,none⟩)] 259)) (.pointer (some ⟨w.heap.size,0,none⟩)) v R vals (hs.ex ec) (fun i=>decide (0<=Mo t (e.red p m ml (a i)))) (fun w1 i u h1 hu=>by
  have hi:i<R:=by
   have h2:=(List.getElem?_eq_some_iff.1 hu).1;have h3:=hs.1;omega
  have hx:=ec.trans h1;exact Ob w1 (hg.ex hx) w.heap.size E t ht e rv pv (hE.ex hx) aB (a i) u ((hr i _ u (Dq hi) hu).ex hx) (h1.cell c0)))
 obtain⟨-,va,vc,rfl,-,-,-⟩:=hs;have aC:=Aa ec;clear hr hg hE aB c0 ec;go_enter Tryz.func226,Tryz.ntmps226
 go_wp2_with fail
 refine aD.o.mono ?_;rintro e' w1⟨rfl,aA⟩;have HX:=Aa aA;clear aA;go_wp2_with fail
 go_ret;exact⟨rfl,aC.o.trans HX.o⟩
end
theorem Pk(w:World)(i n:Nat)(hi:i<n)(hn:n<=1000):
  Calls Tryz.prog 240 #[i,n] w fun r w'=>∃g,r= .returned (.slice (some ⟨g,0,none⟩) n n)/\AH w' w.heap.size 3 g n (iv (Az (fun _=>0) i 1))/\Ex w w':=by
 obtain⟨B,hB⟩:=nA w.heap.size;have aA:=Aa hB;go_enter Tryz.func240,Tryz.ntmps240
 go_wp2_with (at_make;refine Au _ rfl _ _ 22 rfl 3 (.int .i64 0) 8 Tryz.underlying22 AC rfl _ n rfl rfl rfl ac ai ?_)
 intro w3 hown hx3
 try simp only[hB]at hown ⊢
 have co:=hown.cell hi;have cf:=hown.frz i;have i1:(0:Int)<=(i:Int):=ac;have i2:(i:Int)<(n:Int):=ac;have HO:=Aa (show AH (w3.setCell (B,i) (.int .i64 1)) B 3 B n (iv (Az (fun _=>(0:Int)) i 1)) from by rw[<-CC];exact hown.set i _);have HX:=Aa (show Ex w (w3.setCell (B,i) (.int .i64 1)) from hown.exSet ac hx3 i _);clear hown hx3 hB;go_wp2_with fail
 go_ret;exact⟨B,rfl,by rw[aA.o];exact HO.o,HX.o⟩
structure Mv(w:World)(A b n:Nat)(v1 v2:Value):Prop where
 c0:w.cell? (A,0)=some (.pointer (some (b,0)))
 c4:w.cell? (A,4)=some (.int .i64 n)
 c5:w.cell? (A,5)=some v1
 c10:w.cell? (A,10)=some v2
theorem Mv.ex{w w':World}{A b n:Nat}{v1 v2:Value}(h:Mv w A b n v1 v2)(hx:Ex w w'):Mv w' A b n v1 v2:=⟨hx.cell h.c0,hx.cell h.c4,hx.cell h.c5,hx.cell h.c10⟩
theorem KO(N k:Nat)(a:Nat->Nat->Int):Aw N (k+1) a=Aw N k a ++ [il N (a k)]:=by unfold Aw;rw[List.range_succ,List.map_append];rfl
section
variable {b p m x0:Nat} {ml:List Int}
theorem aw{P:Prop}(h:P:=by rw[List.getD_eq_getElem?_getD,List.getElem?_eq_getElem hi];rfl):P:=h
theorem MT(w:World)(hg:Bh w b p m ml x0)(A n:Nat)(hn:n<=64)(v1 v2:Value)(hP:Mv w A b n v1 v2)(l1 l2:List (List Int))(h1:BZ w v1 l1)(h2:BZ w v2 l2)(bA:∀r∈l1,r.length=n)(aZ:∀r∈l2,r.length=n)(bK:l1.length<=256)(bJ:l2.length<=256)
  (tl sl:List Int) (tv sv:Value) (ht:Al w tv tl) (hs:Al w sv sl) (bI:sl.length=tl.length) (bG:tl.length<=n) (aY:BB tl n=true):
  Calls Tryz.prog 224 #[.pointer (some (A,0)),.agg #[tv,sv]] w fun r w'=>∃u1 u2,r= .returned (.tuple #[u1,u2])/\BZ w' u1 (Aw tl.length l1.length fun i=>DZ p m ml sl (Ak l1 i))/\BZ w' u2 (Aw tl.length l2.length fun i=>GX tl (Ak l2 i))/\Ex w w':=by
 obtain⟨b0,b1,eb,bH⟩:=AX w tv sv;obtain⟨N,hN⟩:=nA tl.length;have aQ:=Aa (fun i (hi:i<l1.length)=>show l1[i]?=some (l1.getD i [])/\(l1.getD i []).length=n from by
  have h:l1[i]?=some (l1.getD i []):=aw;exact⟨h,bA _ (List.mem_of_getElem? h)⟩)
 have aP:=Aa (fun i (hi:i<l2.length)=>show l2[i]?=some (l2.getD i [])/\(l2.getD i []).length=n from by
  have h:l2[i]?=some (l2.getD i []):=aw;exact⟨h,aZ _ (List.mem_of_getElem? h)⟩)
 have bP:=Aa (fun (w1:World) (hw:Ex w w1) (x:List Int) (xv:Value) (hx:Al w1 xv x) (hl:x.length=n)=>Ld w1 (hg.ex hw) A (hw.cell hP.c0) N ac tl sl x tv sv xv (ht.ex hw) (hs.ex hw) hx hN ac ac);have bO:=Aa (fun (w1:World) (hw:Ex w w1) (y:List Int) (yv:Value) (hy:Al w1 yv y) (hl:y.length=n)=>KM w1 A N ac tl y tv sv yv (ht.ex hw) hy hN (by rw[hl];exact aY));obtain⟨ra,rc,rfl,-,r2,r3⟩:=h1.open;obtain⟨sa,sc,rfl,-,s2,s3⟩:=h2.open;unfold maxLen at r2 s2;have R3:=Aa r3;have S3:=Aa s3;have p5:=eb.cell hP.c5;have aE:=eb.cell hP.c10;have aX:=Aa eb;obtain⟨F1,aV⟩:∃F,(fun i=>DZ p m ml sl (Ak l1 i))=F:=⟨_,rfl⟩;obtain⟨F2,aU⟩:∃F,(fun i=>GX tl (Ak l2 i))=F:=⟨_,rfl⟩;have bR:=Aa (fun i=>congrFun aV i);have bQ:=Aa (fun i=>congrFun aU i);rw[aV,aU,hN];obtain⟨R1,bC⟩:∃R,l1.length=R:=⟨_,rfl⟩;obtain⟨R2,bB⟩:∃R,l2.length=R:=⟨_,rfl⟩;rw[bC]at R3 aQ bK p5 ⊢;rw[bB]at S3 aP bJ aE ⊢;clear hg hP h1 h2 bA aZ ht hs r3 s3 aV aU aY eb bC bB hN bI bG;go_enter Tryz.func224,Tryz.ntmps224
 go_wp2_with fail
 obtain⟨B,hB⟩:=nA w.heap.size;rw[hB]at b0 b1
 try simp only[hB]
 clear hB bH;generalize w.alloc (.cells #[tv,sv] 71)=w1 at *;have B0:=Aa b0;have B1:=Aa b1;have bN:=Aa aE;clear p5 aE b0 b1
 go_loopw [4,16] (fun cv k' wr=>∃(k:Nat) (vals:List Value),k<=R1/\k'= .int .i64 k/\Hia (BD wr w1.heap.size cv (Aw N k F1) vals)/\Hia (Ex w1 wr)) (fun _ k' _=>R1-(intOf k').toNat)
 case atStart=>exact⟨0, [],ac,rfl,Aa (BD.nil _ _),Aa (Ex.refl _)⟩
 case round=>
  obtain⟨k,vals,hk,rfl,hm,hx⟩:=hrel;obtain⟨ca,cc,bM⟩:=Ae hm.o.cvo;subst bM;by_cases hkR:k<R1
  .obtain⟨rb,ro,rfl,aI⟩:=R3.o ac;obtain⟨aL,aK⟩:=aQ.o k hkR;obtain⟨uv,aH,aG⟩:=aI k _ aL;have aB:=aX.o.trans hx.o;have cu:=aB.cell aH;have b0:=hx.o.cell B0.o;have b1:=hx.o.cell B1.o;have i1:(0:Int)<=(k:Int):=by omega
   have i2:(k:Int)<(R1:Int):=ac;have HC:=Aa (bP.o wr aB _ uv (aG.ex aB) aK);rw[show(DZ p m ml sl fun j=>(l1.getD k []).getD j 0)=F1 k from bR.o k]at HC;have HM:=Aa hm.o;have HX:=Aa hx.o;have aO:=Aa (AZ N k F1);clear aI aL aK aH aG aB hm hx;go_wp2_with (first
        | (go_at_call 228
           refine HC.o.mono ?_;rintro e w5⟨g5,rfl,aJ,aF⟩;have aC:=Aa aJ;have aN:=Aa aF;clear aJ aF;have aD:=Aa (HM.o.ex aN.o);have aM:=Aa (HX.o.trans aN.o);have HL:=Aa (show w5.ownsRow w1.heap.size 3 1 (.slice (some ⟨g5,0,none⟩) N N) (il N (F1 k)).length (Ao (il N (F1 k))) from by
             rw[AL,Cu];exact Bj aC.o (by have:=HX.o.size;omega))
           have aR:=Aa (show AR (.slice (some ⟨g5,0,none⟩) N N) (.slice ca (Aw N k F1).length cc) from by
             right;show some g5≠_
             intro e;have:=(HM.o.cvo.lt g5 e.symm).2;have:=aC.o.lt.1;omega)
           clear HM aC)
        | (at_builtin;refine Am _ rfl _ _ 37 rfl w1.heap.size 22 (.slice none 0 0) 1 24 Tryz.underlying37 BU rfl ae _ (Aw N k F1).length _ rfl aD.o.cvo [.slice (some ⟨g5,0,none⟩) N N] 22 _ rfl ag rfl aj (by have:=aO.o;unfold maxLen;omega) (by have:=aO.o;omega) aM.o.size ?_))
   intro v2 w6 aA;have HO:=Aa (aD.o.app HL.o aR.o aA);have HE:=Aa (aA.ex aM.o (Nat.le_refl _));obtain⟨va,vc,aT⟩:=Ae aA.own;subst aT;rw[<-KO]at HO;clear aA HL aR aD;go_wp2_with fail
   go_roundw
   case rel=>first|exact⟨k+1,_,ac,by go_num,HO,HE⟩|((repeat apply Exists.intro);exact⟨⟨k+1,_,ac,by go_num,HO,HE⟩,rfl⟩)
   case measure=>simp[intOf];omega
  .obtain rfl:k=R1:=by omega
   have HM:=Aa hm.o;have HX:=Aa hx.o;have aE:=hx.o.cell bN.o;have bE:=Aa hm.o.msl;obtain⟨w8,aS⟩:∃w8,w8=wr:=⟨_,rfl⟩;rw[<-aS]at HM HX bE;have H8:=Aa aS;clear hm hx;go_wp2_with fail
   go_loopw [5,34] (fun cv k' wr=>∃(k:Nat) (vals:List Value),k<=R2/\k'= .int .i64 k/\Hia (BD wr w8.heap.size cv (Aw N k F2) vals)/\Hia (Ex w8 wr)) (fun _ k' _=>R2-(intOf k').toNat)
   case atStart=>exact⟨0, [],ac,rfl,Aa (BD.nil _ _),Aa (by rw[H8.o];exact Ex.refl _)⟩
   case round=>
    clear aE aS;obtain⟨j,vals2,hj,rfl,hm,hx⟩:=hrel;obtain⟨da,dc,bL⟩:=Ae hm.o.cvo;subst bL;by_cases hjR:j<R2
    .obtain⟨rb,ro,rfl,aI⟩:=S3.o ac;obtain⟨aL,aK⟩:=aP.o j hjR;obtain⟨uv,aH,aG⟩:=aI j _ aL;have aB:=(aX.o.trans HX.o).trans hx.o;have cu:=aB.cell aH;have b0:=(HX.o.trans hx.o).cell B0.o;have b1:=(HX.o.trans hx.o).cell B1.o;have i1:(0:Int)<=(j:Int):=by omega
     have i2:(j:Int)<(R2:Int):=ac;have HC:=Aa (bO.o wr aB _ uv (aG.ex aB) aK);rw[show(GX tl fun bF=>(l2.getD j []).getD bF 0)=F2 j from bQ.o j]at HC;have aW:=Aa hm.o;have bD:=Aa hx.o;have aO:=Aa (AZ N j F2);clear aI aL aK aH aG aB hm hx;go_wp2_with (first
            | (go_at_call 227
               refine HC.o.mono ?_;rintro e w5⟨g5,rfl,aJ,aF⟩;have aC:=Aa aJ;have aN:=Aa aF;clear aJ aF;have aD:=Aa (aW.o.ex aN.o);have aM:=Aa (bD.o.trans aN.o);have HL:=Aa (show w5.ownsRow w8.heap.size 3 1 (.slice (some ⟨g5,0,none⟩) N N) (il N (F2 j)).length (Ao (il N (F2 j))) from by
                 rw[AL,Cu];exact Bj aC.o (by have:=bD.o.size;omega))
               have aR:=Aa (show AR (.slice (some ⟨g5,0,none⟩) N N) (.slice da (Aw N j F2).length dc) from by
                 right;show some g5≠_
                 intro e;have:=(aW.o.cvo.lt g5 e.symm).2;have:=aC.o.lt.1;omega)
               clear aW aC)
            | (at_builtin;refine Am _ rfl _ _ 37 rfl w8.heap.size 22 (.slice none 0 0) 1 24 Tryz.underlying37 BU rfl ae _ (Aw N j F2).length _ rfl aD.o.cvo [.slice (some ⟨g5,0,none⟩) N N] 22 _ rfl ag rfl aj (by have:=aO.o;unfold maxLen;omega) (by have:=aO.o;omega) aM.o.size ?_))
     intro v2 w6 aA;have HO:=Aa (aD.o.app HL.o aR.o aA);have HE:=Aa (aA.ex aM.o (Nat.le_refl _));obtain⟨va,vc,aT⟩:=Ae aA.own;subst aT;rw[<-KO]at HO;clear aA HL aR aD;go_wp2_with fail
     go_roundw
     case rel=>first|exact⟨j+1,_,ac,by go_num,HO,HE⟩|((repeat apply Exists.intro);exact⟨⟨j+1,_,ac,by go_num,HO,HE⟩,rfl⟩)
     case measure=>simp[intOf];omega
    .obtain rfl:j=R2:=by omega
     go_wp2_with fail
     go_ret2;exact⟨_,_,rfl,bE.o.ex hx.o,hm.o.msl,(aX.o.trans HX.o).trans hx.o⟩
end
theorem Iu{w:World}{base g n:Nat}{i:Nat}(h:AH w base 3 g n (iv (Az (fun _=>0) i 1))):Al w (.slice (some (g,0)) n n) (SF i n):=h.isl
section
variable {b p m x0:Nat} {ml:List Int}
theorem JK(w:World)(hg:Bh w b p m ml x0)(aI:1<=x0)(aH:x0<p^m)(A n:Nat)(hn:n<=64)(v1 v2:Value)(hP:Mv w A b n v1 v2)(l1 l2:List (List Int))(h1:BZ w v1 l1)(h2:BZ w v2 l2)(bN:∀r∈l1,r.length=n)(bM:∀r∈l2,r.length=n)(bP:l1.length<=256)(bO:l2.length<=256)
  (tl sl:List Int) (tv sv:Value) (ht:Al w tv tl) (hs:Al w sv sl) (bK:sl.length=tl.length) (bJ:tl.length<=n) (bL:BB tl n=true):
  Calls Tryz.prog 192 #[.pointer (some (A,0)),.agg #[tv,sv]] w fun r w'=>∃mv,r= .returned (.tuple #[.int .i64 (Fb p m ml l1 l2 tl sl).1,mv])/\Al w' mv (J0 l1.length l2.length (Fb p m ml l1 l2 tl sl))/\(∀B,mv.ownBlock=some B->w.heap.size<=B)/\Ex w w':=by
 obtain⟨b0,b1,eb,hsz⟩:=AX w tv sv;have aG:=Aa (MT _ (hg.ex eb) A n hn v1 v2 (hP.ex eb) l1 l2 (h1.ex eb) (h2.ex eb) bN bM bP bO tl sl tv sv (ht.ex eb) (hs.ex eb) bK bJ bL);have HA:=Aa hP.c0;have HG:=Aa hg;obtain⟨W,hW⟩:=nA (Fb p m ml l1 l2 tl sl);have aD:=hW;unfold Fb at aD;rw[hW];obtain⟨N,hN⟩:=nA tl.length;rw[hN]at aG aD bJ;obtain⟨F1,bV⟩:∃F,(fun i=>DZ p m ml sl (Ak l1 i))=F:=⟨_,rfl⟩;obtain⟨F2,bU⟩:∃F,(fun i=>GX tl (Ak l2 i))=F:=⟨_,rfl⟩;rw[bV,bU]at aG aD;obtain⟨R1,bT⟩:∃R,l1.length=R:=⟨_,rfl⟩;obtain⟨R2,bS⟩:∃R,l2.length=R:=⟨_,rfl⟩;rw[bT]at aG aD bP ⊢;rw[bS]at aG aD bO ⊢;obtain⟨I1,aQ⟩:∃i,Jj p m ml N (Hi p m ml N F2 R2) F1 R1=i:=⟨_,rfl⟩;obtain⟨I2,aP⟩:∃i,Jj p m ml N (Hi p m ml N F1 R1) F2 R2=i:=⟨_,rfl⟩;have bF:=Aa (show I1<R1/\-1<=I1 from by rw[<-aQ];exact OA _ _);have bE:=Aa (show I2<R2/\-1<=I2 from by rw[<-aP];exact OA _ _);simp only[aQ,aP]at aD;have bD:=Aa (fun (w1:World) (hw:Ex w w1) (E:Nat) (rv pv:Value) (hE:Gf w1 E b N (Hi p m ml N F2 R2) rv pv) (v:Value) (hv:BZ w1 v (Aw N R1 F1))=>Gw w1 (hg.ex hw) E N ac _ rv pv hE (Kx N F2 R2) R1 F1 v hv);have bC:=Aa (fun (w1:World) (hw:Ex w w1) (E:Nat) (rv pv:Value) (hE:Gf w1 E b N (Hi p m ml N F1 R1) rv pv) (v:Value) (hv:BZ w1 v (Aw N R2 F2))=>Gw w1 (hg.ex hw) E N ac _ rv pv hE (Kx N F1 R1) R2 F2 v hv);rw[aQ]at bD;rw[aP]at bC;have aS:=Aa aD;have cC:=Aa eb;clear hg hP h1 h2 bN bM ht hs bV bU bL bT bS hN bK hW aD aQ aP eb;go_enter Tryz.func192,Tryz.ntmps192
 go_wp2_with fail
 refine aG.o.mono ?_;rintro e w1⟨u1,u2,rfl,aU,aT,bI⟩;have aZ:=Aa (cC.o.trans bI);have aE:=Aa aU;have aC:=Aa aT;obtain⟨ua,uc,rfl,-,ul,-⟩:=aU.open;obtain⟨va,vc,rfl,-,vl,-⟩:=aT.open;rw[AZ]at aE aC ⊢;rw[AZ];have aL:=Aa (Ky w1 (HG.o.ex aZ.o) aI aH A (aZ.o.cell HA.o) N R2 ac ac F2 _ aC.o);clear aU aT bI aG;go_wp2_with fail
 refine aL.o.mono ?_;rintro e w2⟨E1,rv1,pv1,rfl,bR,aO⟩;have bW:=Aa (aZ.o.trans aO);have aE:=Aa (aE.o.ex aO);have aC:=Aa (aC.o.ex aO);have aM:=Aa (bD.o w2 bW.o E1 rv1 pv1 bR _ aE.o);clear bR aO aL bD;go_wp2_with fail
 refine aM.o.mono ?_;rintro e w3⟨rfl,aN⟩;have aJ:=Aa (bW.o.trans aN);have aE:=Aa (aE.o.ex aN);have aC:=Aa (aC.o.ex aN);clear aN aM;by_cases hi1:0<=I1
 .have aA:=aS.o;rw[if_pos hi1]at aA;subst aA;obtain⟨i,rfl⟩:=Int.eq_ofNat_of_zero_le hi1;have bY:decide ((0:Int)<=(i:Int))=true:=by simp
  have aX:i<R1:=by have:=bF.o.1;omega
  have bA:=Aa (Pk w3 i R1 aX ac);clear hi1 aS;go_wp2_with fail
  refine bA.o.mono ?_;rintro e w4⟨g,rfl,aW,aF⟩;have cB:=Aa aW;have aR:=Aa (aJ.o.trans aF);have bB:=Aa (show w.heap.size<=g from Nat.le_trans aJ.o.size aW.lt.1);clear aW aF;go_wp2_with fail
  go_ret2;refine⟨_,rfl,?_,fun B hB=>?_,aR.o⟩
  .unfold J0;rw[if_pos rfl];exact Iu cB.o
  .injection hB with hB;rw[<-hB];exact bB.o
 .have aA:=aS.o;rw[if_neg hi1]at aA;have bY:decide ((0:Int)<=I1)=false:=by simpa using hi1
  have aB:=Aa aA;have aK:=Aa (Ky w3 (HG.o.ex aJ.o) aI aH A (aJ.o.cell HA.o) N R1 ac ac F1 _ aE.o);clear hi1 aS aA;go_wp2_with fail
  refine aK.o.mono ?_;rintro e w4⟨E2,rv2,pv2,rfl,bQ,aF⟩;have aR:=Aa (aJ.o.trans aF);have aC:=Aa (aC.o.ex aF);have aM:=Aa (bC.o w4 aR.o E2 rv2 pv2 bQ _ aC.o);clear bQ aF aK bC;go_wp2_with fail
  refine aM.o.mono ?_;rintro e w5⟨rfl,bH⟩;have aY:=Aa (aR.o.trans bH);clear bH aM;by_cases hi2:0<=I2
  .have aA:=aB.o;rw[if_pos hi2]at aA;subst aA;obtain⟨i,rfl⟩:=Int.eq_ofNat_of_zero_le hi2;have bX:decide ((0:Int)<=(i:Int))=true:=by simp
   have aX:i<R2:=by have:=bE.o.1;omega
   have bA:=Aa (Pk w5 i R2 aX ac);clear hi2 aB;go_wp2_with fail
   refine bA.o.mono ?_;rintro e w6⟨g,rfl,aV,bG⟩;have cA:=Aa aV;have bZ:=Aa (aY.o.trans bG);have bB:=Aa (show w.heap.size<=g from Nat.le_trans aY.o.size aV.lt.1);clear aV bG;go_wp2_with fail
   go_ret2;refine⟨_,rfl,?_,fun B hB=>?_,bZ.o⟩
   .unfold J0;rw[if_neg (by show ¬((1:Int)=0);decide),if_pos rfl];exact Iu cA.o
   .injection hB with hB;rw[<-hB];exact bB.o
  .have aA:=aB.o;rw[if_neg hi2]at aA;subst aA;have bX:decide ((0:Int)<=I2)=false:=by simpa using hi2
   clear hi2 aB;go_wp2_with fail
   go_ret2;exact⟨_,rfl,A7 _,fun B hB=>by simp[Value.ownBlock]at hB,aY.o⟩
end
structure AO(DM:World->Nat->Prop)(w w':World):Prop where
 size:w.heap.size<=w'.heap.size
 blk:∀B,B<w.heap.size->¬DM w B->w'.heap[B]?=w.heap[B]?/\¬DM w' B
theorem AO.refl(DM:World->Nat->Prop)(w:World):AO DM w w:=⟨Nat.le_refl _,fun B _ h=>⟨rfl,h⟩⟩
theorem AO.trans{DM:World->Nat->Prop}{a b c:World}(h:AO DM a b)(k:AO DM b c):AO DM a c:=
 ⟨Nat.le_trans h.size k.size,fun B hB hn=>by
  have h1:=h.blk B hB hn;have h2:=k.blk B (Nat.lt_of_lt_of_le hB h.size) h1.2;exact⟨h2.1.trans h1.1,h2.2⟩⟩
theorem IM{w w':World}{B o:Nat}{v:Value}(h:w'.heap[B]?=w.heap[B]?)(hc:w.cell? (B,o)=some v):w'.cell? (B,o)=some v:=by
 rw[<-hc];unfold World.cell?;rw[h]
theorem AO.cell{DM:World->Nat->Prop}{w w':World}(h:AO DM w w'){B o:Nat}{v:Value}(hn:¬DM w B)(hc:w.cell? (B,o)=some v):w'.cell? (B,o)=some v:=
 IM (h.blk B (World.block_lt_of_cell? _ _ hc) hn).1 hc
def C6(DM:World->Nat->Prop)(w:World)(v:Value)(l:List Int):Prop:=Al w v l/\(l≠ []->∀B,v.ownBlock=some B->¬DM w B)
theorem C6.keep{DM:World->Nat->Prop}{w w':World}{v:Value}{l:List Int}(h:C6 DM w v l)(k:AO DM w w'):C6 DM w' v l:=by
 obtain⟨h1,h2⟩:=h
 cases l with
 | nil=>
  obtain⟨g1,a,cap,g2,g3,g4,g5⟩:=h1;exact⟨⟨g1,a,cap,g2,g3,g4,fun hn=>absurd hn ag⟩,fun hn=>absurd rfl hn⟩
 | cons x l=>
  obtain⟨g1,a,cap,g2,g3,g4,g5⟩:=h1;obtain⟨b,o,rfl,g7⟩:=g5 ag;have hb:¬DM w b:=h2 ag b (by rw[g2];rfl);have aA:b<w.heap.size:=World.block_lt_of_cell? _ _ (g7 0 (.int .i64 x) (by simp[Ao]));have hk:=k.blk b aA hb;refine⟨⟨g1,_,cap,g2,g3,g4,fun _=>⟨b,o,rfl,fun j u hu=>IM hk.1 (g7 j u hu)⟩⟩,fun _ B hB=>?_⟩;rw[g2]at hB;injection hB with hB;rw[<-hB];exact hk.2
theorem C6.fresh{DM:World->Nat->Prop}{w:World}{v:Value}{l:List Int}(h:Al w v l)(hB:∀B,v.ownBlock=some B->¬DM w B):C6 DM w v l:=⟨h,fun _=>hB⟩
structure Vg{σ:Type}(St:σ->World->Prop)(DM:World->Nat->Prop):Prop where
 ex:∀s w w',St s w->Ex w w'->St s w'
 lt:∀s w B,St s w->DM w B->B<w.heap.size
 dx:∀s w w' B,St s w->Ex w w'->DM w' B->DM w B
section
variable {σ:Type} {St:σ->World->Prop} {DM:World->Nat->Prop} {s:σ} {w w':World}
theorem Vg.keeps(H:Vg St DM)(hs:St s w)(hx:Ex w w'):AO DM w w':=
 ⟨hx.size,fun B hB hn=>⟨hx.block B hB,fun h=>hn (H.dx s w w' B hs hx h)⟩⟩
theorem Vg.new(H:Vg St DM)(hs:St s w)(hx:Ex w w'){B:Nat}(hB:w.heap.size<=B):¬DM w' B:=fun h=>by
 have:=H.lt s w B hs (H.dx s w w' B hs hx h);omega
end
section
variable {σ:Type} {step:σ->List Int->List Int->σ × Int} {tl sl:List Int} {j q:Nat} {s:σ}
theorem PA{c:Nat}(h:(FM step tl sl j c s).2≠0):∀k,FM step tl sl j (c+k) s=FM step tl sl j c s
 | 0=>rfl
 | k+1=>by
  show(if (FM step tl sl j (c+k) s).2≠0 then FM step tl sl j (c+k) s else _)=_
  rw[PA h k,if_pos h]
theorem Px{j:Nat}(h:(Eh step q tl sl j s).2≠0):∀k,Eh step q tl sl (j+k) s=Eh step q tl sl j s
 | 0=>rfl
 | k+1=>by
  show(if (Eh step q tl sl (j+k) s).2≠0 then Eh step q tl sl (j+k) s else _)=_
  rw[Px h k,if_pos h]
theorem VL{c:Nat}(h:(FM step tl sl j c s).2=0):FM step tl sl j (c+1) s=step (FM step tl sl j c s).1 (tl ++ [(j:Int)]) (sl ++ [((c+1:Nat):Int)]):=by
 show(if (FM step tl sl j c s).2≠0 then _ else _)=_
 rw[if_neg (by simp[h])]
theorem VI{j:Nat}(h:(Eh step q tl sl j s).2=0)(hc:tl.contains (j:Int)=true):Eh step q tl sl (j+1) s=Eh step q tl sl j s:=by
 show(if (Eh step q tl sl j s).2≠0 then _ else if _ then _ else _)=_
 rw[if_neg (by simp[h]),if_pos hc]
theorem NQ{j:Nat}(h:(Eh step q tl sl j s).2=0)(hc:tl.contains (j:Int)=false):Eh step q tl sl (j+1) s=FM step tl sl j (q-1) (Eh step q tl sl j s).1:=by
 show(if (Eh step q tl sl j s).2≠0 then _ else if _ then _ else _)=_
 rw[if_neg (by simp[h]),if_neg (by rw[hc];decide)]
theorem SW{j n c:Nat}(h:(Eh step q tl sl j s).2=0)(hc:tl.contains (j:Int)=false)(hj:j<n)(hcq:c<=q-1)(he:(FM step tl sl j c (Eh step q tl sl j s).1).2≠0):
  Eh step q tl sl n s=FM step tl sl j c (Eh step q tl sl j s).1:=by
 have h1:=NQ h hc;have h2:=PA he (q-1-c);rw[show c+(q-1-c)=q-1 from ac]at h2;rw[h2]at h1;have h3:=Px (step:=step) (q:=q) (tl:=tl) (sl:=sl) (s:=s) (j:=j+1) (by rw[h1];exact he) (n-(j+1));rw[show j+1+(n-(j+1))=n from ac,h1]at h3;exact h3
end
theorem Gb(w:World)(l:List Int)(v:Value)(hl:Al w v l)(hn2:l.length<=1000):
  Calls Tryz.prog 154 #[v] w fun r w'=>∃v',r= .returned v'/\w'.ownsRow w.heap.size 3 1 v' l.length (Ao l)/\Ex w w':=by
 have HL:=Aa hl;obtain⟨a,cap,rfl,s1,s2,s3⟩:=hl.open;have aD:∀u∈Ao l,u.oneCell'=true:=by
  exact zdc
 have aG:=Aa aD;clear hl aD
 cases a with
 | none=>
  have h0:l= []:=by
   exact zcA
  subst h0;have aA:=fun w'=>AP (P:=Tryz.prog) w' 22 3 none 0 cap Tryz.underlying22;simp only[Option.isNone]at aA;clear s1 s2 s3;go_enter Tryz.func154,Tryz.ntmps154
  go_wp2_with fail
  go_ret;exact⟨_,rfl,World.ownsRow_nil _ _ _ _,Ex.refl _⟩
 | some ad=>
  have aA:=fun w'=>AP (P:=Tryz.prog) w' 22 3 (some ad) l.length cap Tryz.underlying22;simp only[Option.isNone]at aA;clear s3;go_enter Tryz.func154,Tryz.ntmps154
  go_wp2_with (at_builtin;refine Bl _ rfl _ _ 22 rfl w.heap.size 3 (.int .i64 0) 1 8 Tryz.underlying22 AC rfl ae _ 0 [] rfl (Bw w 3) (.slice (some ad) l.length cap) l.length (Ao l) rfl (HL.o.ex ((Ex.refl w).alloc _)) aG.o ai ac ag ?_)
  intro v1 w1 aB aE aF;have aC:Ex w w1:=Ex.grown ((Ex.refl w).alloc _) (Bw w 3) (Nat.le_refl _) aE;have HI:=Aa aB;have HX:=Aa aC;clear aB aE aF aC aA;go_wp2_with fail
  go_ret;exact⟨_,rfl,HI.o,HX.o⟩
def CA(p m:Int)(ml:List Int)(p' m':Int)(aA:List Int):Bool:=p==p'&&m==m'&&ml==aA
theorem Db{p m:Int}{ml:List Int}{p' m':Int}{ml':List Int}:CA p m ml p' m' ml'=true↔p=p'/\m=m'/\ml=ml':=by
 unfold CA;simp[and_assoc]
theorem zal{P:Prop}(h:P:=by
 have b3:((ml.length:Int) !=(aA.length:Int))=true:=by simp;omega
 have hr:R=false:=by
  rw[<-HR.o];exact Bool.eq_false_iff.2 fun h=>h3 (by rw[(Db.1 h).2.2])
 subst hr;have h3':¬((ml.length:Int)=(aA.length:Int)):=by omega
 clear h3 h1 h2;exact zdj):P:=h
theorem zam{P:Prop}(h:P:=by
 have:=aM.o j hj;rw[List.getElem?_eq_getElem hj,List.getElem?_eq_getElem (by have:=H3.o;omega)];rw[List.getD_eq_getElem?_getD,List.getElem?_eq_getElem hj,List.getD_eq_getElem?_getD,List.getElem?_eq_getElem (by have:=H3.o;omega)]at this;simpa using this):P:=h
theorem zbk{P:Prop}(h:P:=by
 have hr:R=true:=aL.o.2 (List.ext_getElem? fun j=>by
  by_cases hj:j<ml.length
  .exact zam
  .rw[List.getElem?_eq_none (by omega),List.getElem?_eq_none (by have:=H3.o;omega)])
 subst hr;go_wp2_with fail
 go_ret;exact⟨rfl,HE.o.trans aB.o⟩):P:=h
theorem zbD{P:Prop}(h:P:=by
 have hr:R=false:=by
  rw[<-HR.o];exact Bool.eq_false_iff.2 fun h=>h2 (Db.1 h).2.1
 subst hr;clear h1 h2;exact zdj):P:=h
theorem zbF{P:Prop}(h:P:=by
 have hr:R=false:=by
  rw[<-HR.o];exact Bool.eq_false_iff.2 fun h=>h1 (Db.1 h).1
 subst hr;clear h1;exact zdj):P:=h
theorem Ve(w:World)(p m:Int)(ml:List Int)(mv:Value)(aJ:Al w mv ml)(p' m':Int)(aA:List Int)(aF:Value)(aC:Al w aF aA):
  Calls Tryz.prog 191 #[.agg #[p,m,mv],.agg #[p',m',aF]] w fun r w'=>r= .returned (.bool (CA p m ml p' m' aA))/\Ex w w':=by
 obtain⟨a0,a1,a2,ea,-⟩:=AA w p m mv;obtain⟨b0,b1,b2,eb,-⟩:=AA (w.alloc (.cells #[p,m,mv] 24)) p' m' aF;replace a0:=eb.cell a0;replace a1:=eb.cell a1;replace a2:=eb.cell a2;have aH:(w.alloc (.cells #[p,m,mv] 24)).heap.size=w.heap.size+1:=ag;rw[aH]at b0 b1 b2;have HE:=Aa (ea.trans eb);obtain⟨ma,mc,rfl,m1',m2,m3⟩:=aJ.open;obtain⟨na,nc,rfl,-,n2,n3⟩:=aC.open;unfold maxLen at m2 n2;obtain⟨R,hR⟩:=nA (CA p m ml p' m' aA);rw[hR];have M3:=Aa m3;have N3:=Aa n3;have HR:=Aa hR;clear aJ aC aH ea eb m3 n3 hR;go_enter Tryz.func191,Tryz.ntmps191
 by_cases h1:p=p'
 .have aQ:(p !=p')=false:=by simpa using h1
  by_cases h2:m=m'
  .have aP:(m !=m')=false:=by simpa using h2
   by_cases h3:ml.length=aA.length
   .have b3:((ml.length:Int) !=(aA.length:Int))=false:=by simp;omega
    subst h1;subst h2;have hn:∃n,ml.length=n:=⟨_,rfl⟩;have aL:=Aa (show R=true↔ml=aA from by rw[<-HR.o,Db];simp);have H3:=Aa h3;rw[<-h3]at a0 a1 a2 b0 b1 b2 HE ⊢;clear h3 b3 hn;go_wp2_with fail
    generalize (w.alloc (.cells #[p,m,.slice ma ml.length mc] 24)).alloc (.cells #[p,m,.slice na ml.length nc] 24)=w1 at *;have A2:=Aa a2;have B2:=Aa b2
    go_loopw [31] (fun i' wr=>∃(i:Nat),i<=ml.length/\i'= .int .i64 i/\(∀j,j<i->ml.getD j 0=aA.getD j 0)/\Hia (Ex w1 wr)) (fun i' _=>ml.length-(intOf i').toNat)
    case atStart=>exact⟨0,ac,rfl,fun j hj=>ac,Aa (Ex.refl _)⟩
    case round=>
     obtain⟨i,hi,rfl,aD,aB⟩:=hrel;have aM:=Aa aD;clear aD a0 a1 b0 b1;by_cases hin:i<ml.length
     .obtain⟨mb,mo,rfl,aK⟩:=M3.o ac;obtain⟨nb,no,rfl,aI⟩:=N3.o (by have:=H3.o;omega);have c1:=aB.o.cell (HE.o.cell (aK i _ (show ml[i]?=some (ml.getD i 0) from by rw[List.getD_eq_getElem?_getD,List.getElem?_eq_getElem hin];rfl)));have c2:=aB.o.cell (HE.o.cell (aI i _ (show aA[i]?=some (aA.getD i 0) from by rw[List.getD_eq_getElem?_getD,List.getElem?_eq_getElem (by have:=H3.o;omega)];rfl)));have f2:=aB.o.cell A2.o;have g2:=aB.o.cell B2.o;have j1:(0:Int)<=(i:Int):=by omega
      have j2:(i:Int)<(ml.length:Int):=ac;have aO:m2=m2:=rfl;obtain⟨x,hx⟩:=nA (ml.getD i 0);obtain⟨y,hy⟩:=nA (aA.getD i 0);rw[hx]at c1;rw[hy]at c2;have aE:=Aa (show x=ml.getD i 0/\y=aA.getD i 0 from⟨hx.symm,hy.symm⟩);clear hx hy aK aI a2 b2 aO;by_cases hxy:x=y
      .have aN:=Aa (show ∀j,j<i+1->ml.getD j 0=aA.getD j 0 from fun j hj=>by
        by_cases e:j=i
        .subst e;rw[<-aE.o.1,<-aE.o.2,hxy]
        .exact aM.o j ac)
       have bb:(y !=x)=false:=by simp[hxy]
       have aG:y=x:=hxy.symm;subst aG;clear hxy;go_wp2_with fail
       go_roundw
       case rel=>first|exact⟨i+1,ac,by go_num,aN.o,aB⟩|((repeat apply Exists.intro);exact⟨⟨i+1,ac,by go_num,aN.o,aB⟩,rfl⟩)
       case measure=>simp[intOf];omega
      .have bb:(y !=x)=true:=by simpa using fun h=>hxy h.symm
       have hr:R=false:=Bool.eq_false_iff.2 fun h=>hxy (by rw[aE.o.1,aE.o.2,aL.o.1 h]);subst hr;have aG:¬y=x:=fun h=>hxy h.symm;clear hxy;go_wp2_with fail
       go_ret;exact⟨rfl,HE.o.trans aB.o⟩
     .obtain rfl:i=ml.length:=by omega
      exact zbk
   .exact zal
  .have aP:(m !=m')=true:=by simpa using h2
   exact zbD
 .have aQ:(p !=p')=true:=by simpa using h1
  exact zbF
structure MN(w:World)(base g R N cap:Nat)(vals:Nat->Value)(a:Nat->Nat->Int):Prop where
 o:A9 w base 22 g R cap vals
 row:∀i,i<R->w.ownsRow base 3 1 (vals i) N (Ao (il N (a i)))
 ap:∀i,i<R->(vals i).ownBlock≠some g
section
variable {w w':World} {base g R N cap:Nat} {vals:Nat->Value} {a:Nat->Nat->Int}
theorem MN.ex(h:MN w base g R N cap vals a)(hx:Ex w w'):MN w' base g R N cap vals a:=
 ⟨h.o.ex hx,fun i hi=>Aj (h.row i hi) hx,h.ap⟩
theorem MN.set(h:MN w base g R N cap vals a){i:Nat}{u:Value}{f:Nat->Int}(hu:w.ownsRow base 3 1 u N (Ao (il N f)))(hg:u.ownBlock≠some g):MN (w.setCell (g,i) u) base g R N cap (Az vals i u) (Az a i f) where
 o:=h.o.set i u
 row:=fun j hj=>by
  by_cases e:j=i
  .subst e;rw[Ab,Ab];exact Ac hu hg u
  .rw[Ad _ _ e,Ad _ _ e];exact Ac (h.row j hj) (h.ap j hj) u
 ap:=fun j hj=>by
  by_cases e:j=i
  .subst e;rw[Ab];exact hg
  .rw[Ad _ _ e];exact h.ap j hj
theorem Yz(a:Nat->Nat->Int)(s k:Nat):Az (Az a s (a k)) k (a s)=DE a s k:=by
 funext i;unfold Az DE;by_cases e1:i=k
 .subst e1;rw[if_pos rfl];by_cases e2:i=s
  .subst e2;rw[if_pos rfl]
  .rw[if_neg e2,if_pos rfl]
 .rw[if_neg e1,if_neg e1]
theorem MN.swp(h:MN w base g R N cap vals a){s k:Nat}(hs:s<R)(hk:k<R):MN ((w.setCell (g,s) (vals k)).setCell (g,k) (vals s)) base g R N cap (Az (Az vals s (vals k)) k (vals s)) (DE a s k):=by
 have h1:=h.set (i:=s) (h.row k hk) (h.ap k hk);have h2:=h1.set (i:=k) (u:=vals s) (f:=a s) (Ac (h.row s hs) (h.ap s hs) _) (h.ap s hs);rw[Yz]at h2;exact h2
theorem MN.exSet{w0:World}(h:MN w base g R N cap vals a)(hb:w0.heap.size<=base)(hx:Ex w0 w)(i:Nat)(u:Value):Ex w0 (w.setCell (g,i) u):=h.o.exSet hb hx i u
theorem MN.at(h:MN w base g R N cap vals a)(hN:1<=N){i c:Nat}(hi:i<R)(hc:c<N):∃gi ci,vals i= .slice (some ⟨gi,0,none⟩) N ci/\w.cell? ⟨gi,c,none⟩=some (.int .i64 (a i c))/\N<=ci/\ci<=maxLen:=by
 have hr:=h.row i hi;obtain⟨gi,ci,e,h1,h2⟩:=Fs hr hN;refine⟨gi,ci,e,?_,h1,h2⟩;rw[e,Cu]at hr;have:=A9.cell (show A9 w base 3 gi N ci (iv (a i)) from hr) hc;exact this
theorem MN.isl(h:MN w base g R N cap vals a){i:Nat}(hi:i<R):Al w (vals i) (il N (a i)):=by
 have:=Sl.own (h.row i hi);unfold Al;rw[AL];exact this
def Jz(b0:Nat)(w:World)(v:Value)(rows:List (List Int)):Prop:=∀w':World,(∀B,b0<=B->B<w.heap.size->w'.heap[B]?=w.heap[B]?)->BZ w' v rows
theorem Jz.msl{b0:Nat}{w:World}{v:Value}{rows:List (List Int)}(h:Jz b0 w v rows):BZ w v rows:=h w fun _ _ _=>rfl
theorem Jz.mono{b0 b1:Nat}{w:World}{v:Value}{rows:List (List Int)}(h:Jz b0 w v rows)(hb:b1<=b0):Jz b1 w v rows:=fun w' aA=>h w' fun B h1 h2=>aA B ac h2
theorem Jz.nil{b0:Nat}{w:World}{a:Option Addr}{c:Nat}(hc:c<=maxLen):Jz b0 w (.slice a 0 c) []:=fun w' _=>⟨[],⟨rfl,a,c,rfl,Nat.zero_le _,hc,fun h=>absurd h ag⟩,fun i r u h1 _=>by simp at h1⟩
theorem Ns{w w':World}{B o:Nat}{v:Value}(h:w'.heap[B]?=w.heap[B]?)(hc:w.cell? (B,o)=some v):w'.cell? (B,o)=some v:=by
 simp only[World.cell?]at hc ⊢;rw[h];exact hc
theorem MN.mslF(h:MN w base g R N cap vals a){b0:Nat}(hb:b0<=base){k:Nat}(hk:k<=R):Jz b0 w (.slice (some (g,0)) k cap) (Aw N k a):=fun w' aA=>by
 obtain⟨c1,c2⟩:=h.o.caps;refine⟨vs k vals,?_,fun i r u h1 h2=>?_⟩
 .rw[AZ];refine⟨by rw[Bm,Nat.mul_one],some ⟨g,0,none⟩,cap,rfl,ac,c2,fun hn=>⟨g,0,rfl,fun j u hu=>?_⟩⟩;have hj:j<k:=by have:=(List.getElem?_eq_some_iff.1 hu).1;rw[Bm]at this;exact this
  rw[Dk hj]at hu;injection hu with hu;subst hu;rw[Nat.zero_add];have hc:=h.o.cell (j:=j) ac;exact Ns (aA g (by have:=h.o.lt.1;omega) (World.block_lt_of_cell? _ _ hc)) hc
 .have hi:i<k:=by have:=(List.getElem?_eq_some_iff.1 h1).1;rw[AZ]at this;exact this
  rw[Dq hi]at h1;rw[Dk hi]at h2;injection h1 with h1;injection h2 with h2;subst h1 h2;have hr:=h.row i ac;obtain⟨g1,c,cc,g2,g3,g4,g5⟩:=h.isl (i:=i) ac;refine⟨g1,c,cc,g2,g3,g4,fun hn=>?_⟩;obtain⟨b,o,rfl,g7⟩:=g5 hn;refine⟨b,o,rfl,fun j u hu=>?_⟩;have hc:=g7 j u hu;exact Ns (aA b (by have:=(hr.lt b (by rw[g2];rfl)).1;omega) (World.block_lt_of_cell? _ _ hc)) hc
theorem MN.of{cv:Value}{vl:List Value}(h:BD w base cv (Aw N R a) vl)(hR:1<=R):∃g cap,cv= .slice (some ⟨g,0,none⟩) R cap/\MN w base g R N cap (fun i=>vl.getD i undef) a:=by
 have hl:vl.length=R:=by rw[h.len,AZ]
 have aA:vl=vs R (fun i=>vl.getD i undef):=by
  refine List.ext_getElem? fun j=>?_;by_cases hj:j<R
  .rw[Dk hj,List.getD_eq_getElem?_getD,List.getElem?_eq_getElem ac];rfl
  .rw[List.getElem?_eq_none ac,List.getElem?_eq_none (by rw[Bm];omega)]
 have hc:=h.cvo;rw[AZ,aA]at hc;obtain⟨g,cap,e,ho⟩:=Kd hc hR;have hv:∀i,i<R->vl[i]?=some (vl.getD i undef):=fun i hi=>by
  exact zcZ
 refine⟨g,cap,e,ho,fun i hi=>?_,fun i hi e2=>?_⟩
 .have:=h.row i _ _ (Dq hi) (hv i hi);rw[AL]at this;exact this
 .have:=h.apart _ (List.mem_of_getElem? (hv i hi));rcases this with h1|h1
  .rw[h1]at e2;cases e2
  .rw[e,e2]at h1;exact h1 rfl
structure Mi(w1 wr:World)(base g R N cap:Nat)(vals:Nat->Value)(a:Nat->Nat->Int)(piv:List Nat)(pv:Value):Prop where
 em:MN wr base g R N cap vals a
 po:wr.ownsRow base 3 1 pv piv.length (Ao (pI piv))
 pg:pv.ownBlock≠some g
 pa:∀i,i<R->AR (vals i) pv
 hb:w1.heap.size<=base
 ex:Ex w1 wr
variable {w1 wr:World} {piv:List Nat} {pv pv' u:Value} {f:Nat->Int}
theorem Mi.later(h:Mi w1 wr base g R N cap vals a piv pv)(hx:Ex wr w'):Mi w1 w' base g R N cap vals a piv pv:=
 ⟨h.em.ex hx,Aj h.po hx,h.pg,h.pa,h.hb,h.ex.trans hx⟩
theorem Mi.fresh(h:Mi w1 wr base g R N cap vals a piv pv){b' n:Nat}{e:TypeId}{xs:List Value}(hu:w'.ownsRow wr.heap.size e 1 u n xs):u.ownBlock≠some g/\AR u pv:=by
 have hg:=h.em.o.lt.2;refine⟨fun e2=>?_,?_⟩
 .have:=(hu.lt g e2).1;omega
 .cases e2:u.ownBlock with
  | none=>exact .inl e2
  | some B=>
   right;rw[e2];intro e3;have h1:=(h.po.lt B e3.symm).2;have h2:=(hu.lt B e2).1;omega
theorem Mi.set(h:Mi w1 wr base g R N cap vals a piv pv){i:Nat}(hu:wr.ownsRow base 3 1 u N (Ao (il N f)))(hg:u.ownBlock≠some g)(ha:AR u pv):Mi w1 (wr.setCell (g,i) u) base g R N cap (Az vals i u) (Az a i f) piv pv where
 em:=h.em.set hu hg
 po:=Ac h.po h.pg u
 pg:=h.pg
 pa:=fun j hj=>by
  by_cases e:j=i
  .subst e;rw[Ab];exact ha
  .rw[Ad _ _ e];exact h.pa j hj
 hb:=h.hb
 ex:=h.em.exSet h.hb h.ex i u
theorem Mi.swp(h:Mi w1 wr base g R N cap vals a piv pv){s k:Nat}(hs:s<R)(hk:k<R):Mi w1 ((wr.setCell (g,s) (vals k)).setCell (g,k) (vals s)) base g R N cap (Az (Az vals s (vals k)) k (vals s)) (DE a s k) piv pv where
 em:=h.em.swp hs hk
 po:=Ac (Ac h.po h.pg _) h.pg _
 pg:=h.pg
 pa:=fun j hj=>by
  by_cases e:j=k
  .subst e;rw[Ab];exact h.pa s hs
  .rw[Ad _ _ e];by_cases e:j=s
   .subst e;rw[Ab];exact h.pa k hk
   .rw[Ad _ _ e];exact h.pa j hj
 hb:=h.hb
 ex:=(h.em.set (i:=s) (h.em.row k hk) (h.em.ap k hk)).exSet h.hb (h.em.exSet h.hb h.ex s _) k _
theorem Mi.app(h:Mi w1 wr base g R N cap vals a piv pv){c:Nat}(ha:Bv wr w' base 3 1 pv pv' piv.length (Ao (pI piv)) [.int .i64 (c:Int)]):Mi w1 w' base g R N cap vals a (piv ++ [c]) pv':=by
 have ho:AR (.slice (some ⟨g,0,none⟩) R cap) pv:= .inr fun e=>h.pg e.symm;have h1:=ha.row h.em.o ho;have h2:=fun i hi=>ha.row (h.em.row i hi) (h.pa i hi);refine⟨⟨h1.1,fun i hi=>(h2 i hi).1,h.em.ap⟩,?_,?_,fun i hi=>(h2 i hi).2,h.hb,ha.ex h.ex h.hb⟩
 .have:=ha.own;rw[List.length_append];unfold pI at *;rw[List.map_append];unfold Ao at *;rw[List.map_append];exact this
 .rcases h1.2 with h3|h3
  .cases h3
  .exact fun e=>h3 e.symm
end
end Go.Proofs.YtehieobniamagaaGreat
