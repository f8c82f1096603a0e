/- Walk of the echelon's reduce. -/
import Derived.Test.YtehieobniamagaaGreatZi16
namespace Go.Proofs.YtehieobniamagaaGreat
open Nat renaming le_refl→ζ,le_trans→μ
open List renaming getElem?_eq_some_iff→θ,mem_of_getElem?→ι
open Go.World renaming cell?_setCell_same→φ,ownsRow_nil→ϋ,block_lt_of_cell?→η
open Int renaming eq_ofNat_of_zero_le→δi
open Go.RowKit
set_option linter.all false
set_option maxRecDepth 100000
set_option maxHeartbeats 4000000
structure F9(w:World)(E b t:Nat)(e:Mg)(rv pv:Value):Prop where
 c0:w.cell? (E,0)=some (.pointer (some (b,0)))
 c1:w.cell? (E,1)=some rv
 c2:w.cell? (E,2)=some pv
 rows:B6 w rv (Au t e.n e.a)
 plc:Ak w pv (il e.n fun i=>(e.pl i:Int))
theorem F9.ex{w w':World}{E b t:Nat}{e:Mg}{rv pv:Value}(h:F9 w E b t e rv pv)(hx:Ex w w'):F9 w' E b t e rv pv:=
 ⟨hx.cell h.c0,hx.cell h.c1,hx.cell h.c2,h.rows.ex hx,h.plc.ex hx⟩
theorem UN(p m:Nat)(ml:List Int)(x:Int)(u r:Nat->Int):Gp p m ml x u r 0=u:=by funext j;unfold Gp;rw[if_neg ac]
theorem UO(p m:Nat)(ml:List Int)(x:Int)(u r:Nat->Int)(c:Nat):Ay (Gp p m ml x u r c) c (KO p m ml x u r c)=Gp p m ml x u r (c+1):=by
 funext j;by_cases e:j=c
 .subst e;rw[Ab];unfold Gp;rw[if_pos ac]
 .rw[Ac _ _ e];unfold Gp;by_cases h:j<c
  .exact zbc
  .exact zbd
theorem UP{p m:Nat}{ml:List Int}{x:Int}{u r:Nat->Int}{c:Nat}(h:r c=0):Gp p m ml x u r (c+1)=Gp p m ml x u r c:=by
 funext j;unfold Gp;by_cases e:j=c
 .subst e;rw[if_pos ac,if_neg ac];unfold KO;rw[if_pos h]
 .by_cases h:j<c
  .exact zbc
  .exact zbd
theorem Ws{p m:Nat}{ml:List Int}{x:Int}{u r:Nat->Int}{t j:Nat}(h:j<t):Gp p m ml x u r t j=KO p m ml x u r j:=by unfold Gp;rw[if_pos h]
theorem Wt(w:World)(x:Int):
  Calls Tryz.prog 269 #[x] w fun r w'=>r= .returned (.bool (x !=0))/\Ex w w':=by
 go_enter Tryz.func269,Tryz.ntmps269
 go_wp2_with fail
 go_ret;exact⟨rfl,Ex.refl _⟩
section
variable {b p m x0:Nat} {ml:List Int}
theorem zbY{P:Prop}(h:P:=by
 go_wp2_with fail
 go_roundw
 case rel=>exact⟨i+1,by omega,by go_num,aL,aB⟩
 case measure=>exact Ωm):P:=h
theorem KL(w:World)(hg:Bh w b p m ml x0)(E t:Nat)(ht:t<=1000)(e:Mg)(rv pv:Value)(hE:F9 w E b t e rv pv)(aR:∀i,i<e.n->e.pl i<t)(f:Nat->Int)(vv:Value)(hv:Ak w vv (il t f)):
  Calls Tryz.prog 261 #[(E,0),vv] w fun r w'=>∃v',r= .returned (.tuple #[v',.int .i64 (Mq t (e.red p m ml f))])/\Ak w' v' (il t (e.red p m ml f))/\Ex w w':=by
 obtain⟨n,a,pl⟩:=e;simp only[Mg.red]at *;obtain⟨e0,e1,e2,aC,aH⟩:=hE;simp only at e1 e2 aC aH aR;obtain⟨ra,rc,rfl,r1,r2,r3⟩:=aC.open;obtain⟨pa,pc,rfl,p1,p2,p3⟩:=aH.open;rw[AI]at r1 r3 e1;rw[AM]at p1 p3 e2;unfold maxLen at r2 p2;obtain⟨R3,P3,E0,E1,E2,bT,HG⟩:=To r3 p3 e0 e1 e2 aR hg;by_cases ht0:t=0
 .subst ht0;have bP:n=0:=by
   by_cases h:n=0
   .exact h
   .exact absurd (aR 0 ac) ac
  subst bP;have aN:=Aa (FZ w (il 0 f) vv hv (by simp[il]));clear hv hg aC aH r3 p3 aR;have aT:N4 p m ml a pl f 0=f:=rfl;rw[aT];go_enter Tryz.func261,Tryz.ntmps261
  go_wp2_with fail
  refine aN.o.mono ?_;rintro e w1⟨v1,rfl,aW,-,aI⟩;have bG:=aI.cell E1.o;have bI:=Aa aW;have aT:=Aa aI;obtain⟨va,vc,rfl,-,-,-⟩:=aW.open;clear aW aI;go_wp2_with fail
  go_loopw [18] (fun i' wr=>i'= .int .i64 0/\wr=w1) (fun i' _=>0)
  case atStart=>exact⟨rfl,rfl⟩
  case round=>
   obtain⟨rfl,rfl⟩:=hrel;have aZ:=Aa (Hl wr (.slice va (il 0 f).length vc) 0 [] (by simpa[Ak,il,Aj]using bI.o) (fun j=>f j !=0) (fun w1 i u h1 hu=>by simp at hu));go_wp2_with fail
   refine aZ.o.mono ?_;rintro e w2⟨rfl,aO⟩;have aJ:=Aa aO;clear aO;go_wp2_with fail
   go_ret2;exact⟨_,rfl,bI.o.ex aJ.o,aT.o.trans aJ.o⟩
 .obtain⟨aN,bJ,bM,bU⟩:=Of (NF w (il t f) vv hv (by rw[AM];omega) (by rw[AM];omega)) (fun (w1:World) (h1:Ex w w1) (y z:Int)=>Sub_any w1 (HG.o.ex h1) y z) (fun (w1:World) (h1:Ex w w1) (y z:Int)=>EZ w1 (HG.o.ex h1) y z) hg.sh.p2;obtain⟨K,hK⟩:=nA (N4 p m ml a pl f);have bX:Hia (K 0=f):=Aa (by rw[<-hK];rfl);have bW:=Aa (fun k=>show K (k+1)=Mn p m ml (K k) (pl k) (a k) from by rw[<-hK];rfl);rw[hK];rw[AM]at aN;obtain⟨va,vc,rfl,-,-,-⟩:=hv.open;rw[AM]at aN ⊢;clear hv hg aC aH r3 p3 aR hK;go_enter Tryz.func261,Tryz.ntmps261
  go_wp2_with fail
  refine aN.o.mono ?_;rintro e w1⟨g,cap,rfl,bE,aI⟩;have bG:=aI.cell E1.o;have bL:Hia (Bb w1 w.heap.size 3 g t cap (iv (K 0))):=Aa (bE.icongr fun j hj=>by
   rw[bX.o];exact Gz hj f)
  have aT:=Aa aI;clear bE aI;go_wp2_with fail
  go_loopw [18] (fun i' wr=>∃i:Nat,i<=n/\i'= .int .i64 i/\Hia (Bb wr w.heap.size 3 g t cap (iv (K i)))/\Hia (Ex w wr)) (fun i' _=>n-(intOf i').toNat)
  case atStart=>exact⟨0,ac,rfl,bL,aT⟩
  case round=>
   clear bL bG;obtain⟨i,hi,rfl,aA,aD⟩:=hrel;by_cases hin:i<n
   .obtain⟨rb,ro,rfl,aQ⟩:=R3.o ac;obtain⟨pb,po,rfl,bD⟩:=P3.o ac;obtain⟨uv,aP,bA⟩:=aQ i _ (CR hin);have cu:=aD.o.cell aP;have cp:=aD.o.cell (bD i _ (AT hin _));have d0:=aD.o.cell E0.o;have d2:=aD.o.cell E2.o;have bB:=bT.o i hin;have co:wr.cell? (g,pl i)=some (.int .i64 (K i (pl i))):=aA.o.cell bB;have i1:(0:Int)<=(i:Int):=by omega
    have i2:(i:Int)<(n:Int):=ac;have i3:(0:Int)<=(pl i:Int):=ac;have i4:(pl i:Int)<(t:Int):=ac;have aY:=Aa bA;have aE:=Aa aA.o;have aB:=Aa aD.o;have aF:=bW.o i;obtain⟨r,hr⟩:=nA (a i);rw[hr]at aY aF;obtain⟨u,hu⟩:=nA (K i);rw[hu]at aE aF co;obtain⟨pi,bC⟩:∃q,pl i=q:=⟨_,rfl⟩;rw[bC]at co aF bB i3 i4 cp;obtain⟨x,hx⟩:=nA (u pi);rw[hx]at co;unfold Mn at aF;rw[hx]at aF;obtain⟨ua,uc,rfl,u1,u2,u3⟩:=aY.o.open;rw[AM]at u1 u3 cu;unfold maxLen at u2;have U3:=Aa u3;clear bD aQ aP bA u3 hr hu bC aA aD aY;by_cases h0:x=0
    .rw[if_pos h0]at aF;have bS:(x !=0)=false:=by simp[h0]
     have aL:Hia (Bb wr w.heap.size 3 g t cap (iv (K (i+1)))):=Aa (by rw[aF];exact aE.o);clear h0 hx aF;exact zbY
    .rw[if_neg h0]at aF;have bS:(x !=0)=true:=by simpa using h0
     have bN:=Aa aF;clear h0 hx aF;go_wp2_with fail
     obtain⟨w8,aU⟩:∃w8,w8=wr:=⟨_,rfl⟩;have aM:=Aa aB.o;rw[<-aU]at aM;obtain⟨bK,bV,HWW,U8⟩:=Of (show Bb w8 w.heap.size 3 g t cap (iv (Gp p m ml x u r 0)) from by rw[UN,aU];exact aE.o) (show ∀w',Ex w w'->w'.cell? (E,0)=some (.pointer (some (b,0))) from fun w' h=>h.cell E0.o) (aU ▸ aB.o) (show 0<t->∃bH o,ua=some ⟨bH,o,none⟩/\∀(j:Nat) (x:Int),(il t r)[j]?=some x->w.cell? ⟨bH,o+j,none⟩=some (.int .i64 x) from U3.o);subst aU;clear co cp cu d0 d2 aE aB
     go_loopw [37] (fun c' wr=>∃c:Nat,c<=t/\c'= .int .i64 c/\Hia (Bb wr w.heap.size 3 g t cap (iv (Gp p m ml x u r c)))/\Hia (Ex w wr)) (fun c' _=>t-(intOf c').toNat)
     case atStart=>exact⟨0,ac,rfl,bK,aM⟩
     case round=>
      clear bK aM;obtain⟨c,hc,rfl,aA,aD⟩:=hrel;by_cases hct:c<t
      .obtain⟨ub,uo,rfl,aP⟩:=U8.o ac;have d1:=aD.o.cell (aP c (r c) (AT hct r));have j1:(0:Int)<=(c:Int):=by omega
       have j2:(c:Int)<(t:Int):=ac;have aB:=Aa aD.o;have aE:=Aa aA.o;clear aP aA aD;by_cases hr0:r c=0
       .have bF:(r c !=0)=false:=by simp[hr0]
        have aL:Hia (Bb wr w.heap.size 3 g t cap (iv (Gp p m ml x u r (c+1)))):=Aa (by rw[UP hr0];exact aE.o);clear hr0 aE;go_wp2_with fail
        go_roundw
        case rel=>exact⟨c+1,ac,by go_num,aL,aB⟩
        case measure=>exact Ωm
       .have bF:(r c !=0)=true:=by simpa using hr0
        have bR:wr.cell? (g,c)=some (.int .i64 (u c)):=by
         rw[aE.o.cell hct];show some (Value.int .i64 (Gp p m ml x u r c c))=_;unfold Gp;rw[if_neg ac]
        have bQ:=aE.o.frz c;have d0:=bV.o _ aB.o;obtain⟨K1,aV⟩:∃K,Am p m (lw ml) (Av (p^m) x) (Av (p^m) (r c))=K:=⟨_,rfl⟩;have aS:K1<p^m:=by rw[<-aV];exact A7 (by have:=bU.o;omega) _ _
        have aG:=Aa (fun w' (h:Ex w w')=>bM.o w' h x (r c));rw[aV]at aG;obtain⟨K2,aX⟩:∃K,AK p m (Av (p^m) (u c)) (CL p m (Av (p^m) (K1:Nat)))=K:=⟨_,rfl⟩;have aK:=Aa (fun w' (h:Ex w w')=>bJ.o w' h (u c) (K1:Nat));rw[aX]at aK;have bO:Hia (KO p m ml x u r c=(K2:Nat)):=Aa (by
         unfold KO;rw[if_neg hr0,aV,<-aX,AE aS])
        obtain⟨rc,aQ⟩:∃y,r c=y:=⟨_,rfl⟩;rw[aQ]at bF d1 aG;clear aV aX aS hr0 aQ;have aL:=Aa (fun n=>show Bb ((wr.drewN n).setCell (g,c) (.int .i64 (K2:Nat))) w.heap.size 3 g t cap (iv (Gp p m ml x u r (c+1))) from by
         have:=(aE.o.drewN n).set c (.int .i64 (K2:Nat));rw[CF,<-bO.o,UO]at this;rw[<-bO.o];exact this)
        have aJ:=Aa (fun n=>(aE.o.drewN n).exSet (a:=w) (ζ _) (aB.o.drewN n) c (.int .i64 (K2:Nat)));have G0:Ex w wr.drew:=aB.o.drewN 1;clear aE;go_upto_region 11 with fail
        go_region_law
          ((first
                      | (go_simp;go_at_call 106;(with_reducible refine(aG.o _ (aB.o.drewN _)).mono ?_);rintro e wx1⟨rfl,n1,rfl⟩)
                      | (go_simp;go_at_call 106;(with_reducible refine(aG.o _ G0).mono ?_);rintro e wx1⟨rfl,n1,rfl⟩)
                      | (go_simp;go_at_call 268;(with_reducible refine(aK.o _ (aB.o.drewN _)).mono ?_);rintro e wx2⟨rfl,n2,rfl⟩)))
        all_goals
         clear aG aK G0 bR bQ bJ bM aN bN d0 d1;go_wp2_with fail
         go_roundw
         case measure=>exact Ωm
         case rel=>exact⟨c+1,ac,by go_num,Aa (aL.o _),Aa (aJ.o _)⟩
      .obtain rfl:c=t:=by omega
       have aL:Hia (Bb wr w.heap.size 3 g c cap (iv (K (i+1)))):=Aa (aA.o.icongr fun j hj=>by rw[Ws hj,bN.o]);have aB:=Aa aD.o;clear aA aD;exact zbY
   .obtain rfl:i=n:=by omega
    have aE:=Aa aA.o;have aB:=Aa aD.o;have aZ:=Aa (Hl wr (.slice (some (g,0)) t cap) t _ aA.o.sl (fun j=>K i j !=0) (fun w1 j u h1 hu=>by
     have hj:j<t:=by
      have:=(θ.1 hu).1;rw[Bl]at this;exact this
     rw[Dn hj]at hu;injection hu with hu;subst hu;exact Wt w1 (K i j)))
    clear aA aD;go_wp2_with fail
    refine aZ.o.mono ?_;rintro e w2⟨rfl,aO⟩;have aJ:=Aa aO;clear aO;go_wp2_with fail
    go_ret2;exact⟨_,rfl,(aE.o.ex aJ.o).isl,aB.o.trans aJ.o⟩
end
theorem BI.other{w w':World}{base b2:Nat}{e2:TypeId}{s2 n:Nat}{cv pv pv':Value}{M:List (List Int)}{vals xs news:List Value}(h:BI w base cv M vals)(ha:Bz w w' b2 e2 s2 pv pv' n xs news)(hc:AD cv pv)(hv:∀u∈vals,AD u pv):
  BI w' base cv M vals/\AD cv pv'/\∀u∈vals,AD u pv':=by
 have hn:=h.len;have h0:=ha.row h.cvo hc;refine⟨⟨h0.1,fun i r u h1 h2=>(ha.row (h.row i r u h1 h2) (hv u (ι h2))).1,h.apart⟩,h0.2,fun u hu=>?_⟩;obtain⟨i,hi,e⟩:=List.getElem_of_mem hu;exact(ha.row (h.row i (M[i]'ac) u (List.getElem?_eq_getElem _) au) (hv u hu)).2
structure NE(w1 wr:World)(E b:Nat)(M:List (List Int))(P:List Int)(rv pv:Value)(vals:List Value):Prop where
 c0:wr.cell? (E,0)=some (.pointer (some (b,0)))
 c1:wr.cell? (E,1)=some rv
 c2:wr.cell? (E,2)=some pv
 f1:wr.frozen? (E,1)=false
 f2:wr.frozen? (E,2)=false
 rows:BI wr (E+1) rv M vals
 plc:wr.ownsRow (E+1) 3 1 pv P.length (Aj P)
 ap:AD rv pv
 av:∀u∈vals,AD u pv
 lb:w1.heap.size<=E
 ex:Ex w1 wr
section
variable {w1 wr w':World} {E b:Nat} {M:List (List Int)} {P:List Int} {rv pv v' l:Value} {vals:List Value} {L:List Int} {x:Int}
theorem NE.later(h:NE w1 wr E b M P rv pv vals)(hx:Ex wr w'):NE w1 w' E b M P rv pv vals:=
 ⟨hx.cell h.c0,hx.cell h.c1,hx.cell h.c2,hx.frz h.c1 h.f1,hx.frz h.c2 h.f2,h.rows.ex hx,Ag h.plc hx,h.ap,h.av,h.lb,h.ex.trans hx⟩
theorem EG{w:World}{e:TypeId}{s n:Nat}{v:Value}{xs:List Value}(h:w.ownsRow (E+1) e s v n xs):v.ownBlock≠some E:=fun e=>by
 have:=(h.lt E e).1;omega
theorem NE.at1(h:NE w1 wr E b M P rv pv vals)(ha:Bz wr w' (E+1) 22 1 rv v' M.length vals [l]):w'.cell? (E,1)=some rv/\w'.frozen? (E,1)=false:=
 ⟨ha.cell h.c1 (fun e=>EG h.rows.cvo e.symm),ha.frz h.c1 h.f1 (fun e=>EG h.rows.cvo e.symm)⟩
theorem za9{P:Prop}(h:P:=by
 rw[Af (by decide)];exact ha.cell h.c0 aA):P:=h
theorem NE.app1(h:NE w1 wr E b M P rv pv vals)(hl:wr.ownsRow (E+1) 3 1 l L.length (Aj L))(h1:AD l rv)(h2:AD l pv)(ha:Bz wr w' (E+1) 22 1 rv v' M.length vals [l]):
  NE w1 (w'.setCell (E,1) v') E b (M ++ [L]) P v' pv (vals ++ [l]):=by
 have aA:some E≠rv.ownBlock:=fun e=>EG h.rows.cvo e.symm;have hm:=h.rows.app hl h1 ha;have hr:=ha.row h.plc h.ap.symm;refine⟨?_,φ _ _ _ (ha.cell h.c1 aA),?_,?_,?_,hm.setNe (a:=⟨E,1,none⟩) (by show E<E+1;omega) v',?_,hr.2.symm,?_,h.lb,(ha.ex h.ex (by have:=h.lb;omega)).setCell (p:=⟨E,1,none⟩) h.lb _⟩
 .exact za9
 .rw[Af ae];exact ha.cell h.c2 aA
 .rw[AC];exact ha.frz h.c1 h.f1 aA
 .rw[AC];exact ha.frz h.c2 h.f2 aA
 .exact Ae (a:=⟨E,1,none⟩) hr.1 (EG h.plc) v'
 .intro u hu;rcases List.mem_append.1 hu with hu|hu
  .exact h.av u hu
  .simp at hu;subst hu;exact h2
theorem NE.at2(h:NE w1 wr E b M P rv pv vals)(ha:Bz wr w' (E+1) 3 1 pv v' P.length (Aj P) [.int .i64 x]):w'.cell? (E,2)=some pv/\w'.frozen? (E,2)=false:=
 ⟨ha.cell h.c2 (fun e=>EG h.plc e.symm),ha.frz h.c2 h.f2 (fun e=>EG h.plc e.symm)⟩
theorem NE.app2(h:NE w1 wr E b M P rv pv vals)(ha:Bz wr w' (E+1) 3 1 pv v' P.length (Aj P) [.int .i64 x]):
  NE w1 (w'.setCell (E,2) v') E b M (P ++ [x]) rv v' vals:=by
 have aA:some E≠pv.ownBlock:=fun e=>EG h.plc e.symm;obtain⟨hm,aC,aB⟩:=h.rows.other ha h.ap h.av;have ho:w'.ownsRow (E+1) 3 1 v' (P ++ [x]).length (Aj (P ++ [x])):=by
  have:=ha.own;rw[List.length_append,show Aj (P ++ [x])=Aj P ++ [.int .i64 x] from by unfold Aj;simp];exact this
 refine⟨?_,?_,φ _ _ _ (ha.cell h.c2 aA),?_,?_,hm.setNe (a:=⟨E,2,none⟩) (by show E<E+1;omega) v',Ae (a:=⟨E,2,none⟩) ho (EG ho) v',aC,aB,h.lb,(ha.ex h.ex (by have:=h.lb;omega)).setCell (p:=⟨E,2,none⟩) h.lb _⟩
 .exact za9
 .rw[Af ae];exact ha.cell h.c1 aA
 .rw[AC];exact ha.frz h.c1 h.f1 aA
 .rw[AC];exact ha.frz h.c2 h.f2 aA
theorem NE.at{t:Nat}{e:Mg}(h:NE w1 wr E b (Au t e.n e.a) (il e.n fun i=>(e.pl i:Int)) rv pv vals):F9 wr E b t e rv pv:=
 ⟨h.c0,h.c1,h.c2,h.rows.msl,Sl.own h.plc⟩
end
theorem NE.new(w1:World)(b:Nat):NE w1 (w1.alloc (.cells #[(b,0),(),()] 285)) w1.heap.size b [] [] (.slice none 0 0) (.slice none 0 0) [] where
 c0:=ag
 c1:=ag
 c2:=ag
 f1:=ag
 f2:=ag
 rows:=BI.nil _ _
 plc:=ϋ _ _ _ _
 ap:=AD.nil _
 av:=fun u h=>(List.not_mem_nil h).elim
 lb:=ζ _
 ex:=(Ex.refl _).alloc _
theorem AF(w:World)(o:Obj):Ex w (w.alloc o):=(Ex.refl w).alloc o
theorem XW{w w':World}{o:Obj}{base:Nat}{e:TypeId}{size:Nat}{v v':Value}{n:Nat}{xs news:List Value}(aB:w.ownsRow base e size v n xs)(aA:w'.ownsRow base e size v' (n+1) (xs++news))
  (hg:(w.alloc o).grownBy w' v.ownBlock) (ha:v'.ownBlock=v.ownBlock∨v'.ownBlock=some (w.alloc o).heap.size):Bz w w' base e size v v' n xs news:=
 ⟨aA,⟨o,hg⟩,by simpa using ha,aB⟩
theorem zaP{P:Prop}(h:P:=by
 exact List.map_congr_left fun i hi=>by
  have:=List.mem_range.1 hi;rw[Ac _ _ (by omega)]):P:=h
theorem zc4{P:Prop}(h:P:=by
 rw[List.range_succ,List.map_append]
 congr 1
 .exact zaP
 .simp[Ab]):P:=h
theorem Zd{p m:Nat}{ml:List Int}{t:Nat}{e:Mg}{r:Nat->Int}{k:Nat}(h:Mq t (e.red p m ml r)=k):
  Au t (Gl p m ml t e r).n (Gl p m ml t e r).a=Au t e.n e.a ++ [il t (BT p m ml (ivz p m ml (Av (p^m) (e.red p m ml r k))) (e.red p m ml r))]/\(il (Gl p m ml t e r).n fun i=>((Gl p m ml t e r).pl i:Int))=(il e.n fun i=>(e.pl i:Int)) ++ [(k:Int)]:=by
 unfold Gl;rw[if_pos ac,h];simp only[Int.toNat_natCast];constructor
 .unfold Au;exact zc4
 .unfold il;exact zc4
theorem Ze{p m:Nat}{ml:List Int}{t:Nat}{e:Mg}{r:Nat->Int}(h:Mq t (e.red p m ml r)=-1):Gl p m ml t e r=e:=by
 unfold Gl;rw[if_neg ac]
section
variable {b p m x0:Nat} {ml:List Int}
theorem Ks(w:World)(hg:Bh w b p m ml x0)(aZ:1<=x0)(aY:x0<p^m)(A:Nat)(hA:w.cell? (A,0)=some (.pointer (some (b,0))))(t R:Nat)(ht:t<=1000)(hR:R<=1000)(a:Nat->Nat->Int)(v:Value)(hv:B6 w v (Au t R a)):
  Calls Tryz.prog 225 #[(A,0),v] w fun r w'=>∃E rv pv,r= .returned (.pointer (some ⟨E,0,none⟩))/\F9 w' E b t (Hf p m ml t a R) rv pv/\Ex w w':=by
 obtain⟨ra,rc,rfl,r1,r2,r3⟩:=hv.open;rw[AI]at r1 r3 ⊢;unfold maxLen at r2;obtain⟨R3,HA,HG,cU,cQ,cT,HQ⟩:=To r3 hA hg (fun (w1:World) (h1:Ex w w1) (y:Int)=>Uv w1 (hg.ex h1) aZ aY y) (fun (w1:World) (h1:Ex w w1) (c:Int) (f:Nat->Int) (uv:Value) (hu:Ak w1 uv (il t f))=>Nz w1 (hg.ex h1) t f c uv hu ht) (fun (w1:World) (h1:Ex w w1) (E:Nat) (e:Mg) (rv pv:Value) (hE:F9 w1 E b t e rv pv) (cK:∀i,i<e.n->e.pl i<t) (f:Nat->Int) (vv:Value) (hu:Ak w1 vv (il t f))=>KL w1 (hg.ex h1) E t ht e rv pv hE cK f vv hu) (show 1<=p^m from ac);clear hv r3 hg;go_enter Tryz.func225,Tryz.ntmps225
 go_wp2_with fail
 obtain⟨E,hE⟩:=nA w.heap.size;have bH:=Aa (NE.new w b)
 try simp only[hE]
 rw[hE]at bH;have HEW:=Aa hE;generalize w.alloc (.cells #[(b,0),(),()] 285)=w2 at *;clear hE
 go_loopw [20] (fun i' wr=>∃(k:Nat) (rv pv:Value) (vals:List Value),k<=R/\i'= .int .i64 k/\Hia (NE w wr E b (Au t (Hf p m ml t a k).n (Hf p m ml t a k).a) (il (Hf p m ml t a k).n fun i=>((Hf p m ml t a k).pl i:Int)) rv pv vals)) (fun i' _=>R-(intOf i').toNat)
 case atStart=>exact⟨0,_,_,_,ac,rfl,bH⟩
 case round=>
  clear bH;obtain⟨k,rv,pv,vals,hk,rfl,BF⟩:=hrel;by_cases hkR:k<R
  .obtain⟨rb,ro,rfl,bV⟩:=R3.o ac;obtain⟨uv,bU,bT⟩:=bV k _ (CR hkR);have cu:=BF.o.ex.cell bU;have i1:(0:Int)<=(k:Int):=by omega
   have i2:(k:Int)<(R:Int):=ac;obtain⟨aL,aJ,cD,aR⟩:=Of BF.o (show Hf p m ml t a (k+1)=Gl p m ml t (Hf p m ml t a k) (a k) from rfl) (spn_n (p:=p) (m:=m) (ml:=ml) t a k) (cT.o wr BF.o.ex E (Hf p m ml t a k) rv pv BF.o.at (Kr t a k) (a k) uv (bT.ex BF.o.ex));obtain⟨e,he⟩:=nA (Hf p m ml t a k);rw[he]at aL aJ aR cD;obtain⟨z,hz⟩:=nA (Mq t (e.red p m ml (a k)));have aX:=WZ t (e.red p m ml (a k));rw[hz]at aR aX;have aE:=Aa (fun k' (h:z=(k':Nat))=>Zd (p:=p) (m:=m) (ml:=ml) (t:=t) (e:=e) (r:=a k) (hz.trans h));have aV:=Aa (fun (h:z=-1)=>Ze (p:=p) (m:=m) (ml:=ml) (t:=t) (e:=e) (r:=a k) (hz.trans h));obtain⟨f,hf⟩:=nA (e.red p m ml (a k));rw[hf]at aR aE;rw[<-aJ.o]at aE aV;clear bV bU bT BF he hz hf aJ;go_wp2_with fail
   refine aR.o.mono ?_;rintro e' w3⟨v3,rfl,bC,bR⟩;have bF:=Aa bC;have aP:=Aa bR;clear bR aR;obtain⟨va,vc,rfl,-,v2,v3⟩:=bC.open;rw[AM]at v3 bF ⊢;clear bC;by_cases hz0:0<=z
   .obtain⟨k',rfl⟩:=δi hz0;have cL:k'<t:=by omega
    obtain⟨bQ,bP⟩:=aE.o k' rfl;obtain⟨vb,vo,rfl,bS⟩:=v3 ac;have cv:=bS k' _ (AT cL f);have cM:decide ((0:Int)<=(k':Int))=true:=ag;have ca:=(aL.o.ex.trans aP.o).cell HA.o;have j1:(0:Int)<=(k':Int):=ac;have j2:(k':Int)<(t:Int):=ac;have bI:=Aa (fun (w1:World) (h1:Ex w w1)=>cU.o w1 h1 (f k'));obtain⟨IV,aU,aN⟩:∃c:Nat,(∃e2,R8 p m ml (Av (p^m) (f k'))= .tuple #[(c:Nat),e2])/\Av (p^m) (c:Int)=ivz p m ml (Av (p^m) (f k')):=by
     unfold R8 ivz;by_cases h0:Av (p^m) (f k')=0
     .rw[if_pos h0,if_pos h0];exact⟨0,⟨_,rfl⟩,CN _⟩
     .rw[if_neg h0,if_neg h0];exact⟨_,⟨_,rfl⟩,AE (Kb HQ.o _)⟩
    obtain⟨e2,aU⟩:=aU;rw[aU]at bI;have cA:=Aa bQ;have cN:=Aa bP;rw[<-aN]at cA;have aB:=Aa (aL.o.later aP.o);have cW:=Aa ca;have cV:=Aa cv;clear hz0 aU aN v3 bS aX bQ bP aE aV aL aP;go_wp2_with fail
    go_region_held3 (fun w'=>w'.cell? (A,0)=some (.pointer (some (b,0)))/\w'.cell? (vb,vo+k')=some (.int .i64 (f k')))
     (first|exact⟨cW.o,cV.o⟩)
     (first|(go_at_call 250;(with_reducible refine(bI.o _ aB.o.ex.drew).mono ?_);rintro e w4⟨rfl,n4,rfl⟩))
    obtain⟨w4,bA⟩:=nA (w3.drewN (1+n4));have aO:Hia (Ex w3 w4):=Aa (by rw[<-bA];exact(Ex.refl w3).drewN _)
    try simp only[bA]
    clear bA ca cv bI;have aA:=Aa (aB.o.later aO.o);have cO:=Aa (bF.o.ex aO.o);have ca:=(aA.o.ex).cell HA.o;have t1:=aA.o.c1;have T1F:=Aa aA.o.f1;obtain⟨qa,qc,cI⟩:=Ad aA.o.rows.cvo;subst cI;have aJ:=Aa (fun (w1:World) (h1:Ex w4 w1)=>cQ.o w1 (aA.o.ex.trans h1) (IV:Int) f _ (by
     have:=cO.o.ex h1;exact this))
    have G0:Ex w4 w4.drew:=(Ex.refl w4).drew;have bD:(Au t e.n e.a).length=e.n:=AI _ _ _;rw[bD]at t1;have aS:=Aa bD;have aF:Hia (e.n<=k):=Aa (cD.o);have bG:=Aa t1;clear aB bF bD;go_upto_region 8 with fail
    go_cut [10] from 44 to 70 (fun s10 wx=>∃bN bM aG,Hia (NE w wx E b (Au t e.n e.a ++ [il t (BT p m ml (Av (p^m) (IV:Int)) f)]) (il e.n fun i=>(e.pl i:Int)) (.slice bN (e.n+1) bM) pv aG))
    case first=>
     have aI:=Aa G0
     go_region_law
      ((first
              | (refine Cq bp _ _ _ bp (E+1) 22 (.slice none 0 0) 1 24 Tryz.underlying37 BZ rfl ae (.slice qa e.n qc) e.n vals bp (by have h:=Ag aA.o.rows.cvo ((aI.o.trans aK).trans (AF w5 (.cells #[.slice (some (g5,0)) t t] 22)));rw[aS.o]at h;exact h) _ 1 [.slice (some (g5,0)) t t] bp (Sl.own (Ee w5 (.slice (some (g5,0)) t t) 22)) aj (by have:=aF.o;unfold maxLen;omega) (by have:=aF.o;omega) (by have:=cS.o;simp;omega) ?_;intro v8 w8 aC bY bZ;have bJ:=Aa (XW (by have h:=Ag aA.o.rows.cvo (aI.o.trans aK);rw[aS.o]at h;exact h) aC bY bZ);obtain⟨bL,aW⟩:=(aA.o.later (aI.o.trans aK)).at1 (by rw[aS.o];exact bJ.o);rw[aS.o]at bL;obtain⟨cG,cF,bB⟩:=Ad aC;subst bB)
              | (go_simp;refine(aJ.o _ aI.o).mono ?_;rintro e w5⟨g5,rfl,aT,aK⟩;have t1:=aK.cell (show w4.drew.cell? (E,1)=some (.slice qa e.n qc) from bG.o);have cH:=(AF w5 (.cells #[.slice (some (g5,0)) t t] 22)).cell t1;have cS:Hia (E+1<=w5.heap.size):=Aa (by have h1:=aT.lt;have h2:=η _ _ t1;exact h2);go_simp)))
     all_goals
      have aM:=aI.o.trans aK;have aQ:=aA.o.later aM;have bX:w5.ownsRow (E+1) 3 1 (.slice (some (g5,0)) t t) (il t (BT p m ml (Av (p^m) (IV:Int)) f)).length (Aj (il t (BT p m ml (Av (p^m) (IV:Int)) f))):=by
       rw[AM,Cy];exact Bj aT (η _ _ (aI.o.cell bG.o))
      have bE:∀v2 (e2:TypeId) (n2:Nat) bK,w4.ownsRow (E+1) e2 1 v2 n2 bK->AD (.slice (some (g5,0)) t t) v2:=fun v2 e2 n2 bK h=>by
       right;show some g5≠_
       intro e;have h1:=(h.lt g5 e.symm).2;have h2:=aT.lt.1;have h3:=aI.o.size;omega
      have cR:=Aa (aQ.app1 bX (bE _ _ _ _ aA.o.rows.cvo) (bE _ _ _ _ aA.o.plc) (by rw[aS.o];exact bJ.o));clear aQ bX bE aM bL aW t1 cH bJ aC bY bZ aT aK aJ;go_wp2_with fail
      go_meet
      exact⟨_,_,_,cR⟩
    case rest=>
     obtain⟨bN,bM,aG,hc⟩:=hcut;have t2:=hc.o.c2;have T2F:=Aa hc.o.f2;obtain⟨pa,pc,cJ⟩:=Ad hc.o.plc;subst cJ;rw[AM]at t2;have cP:Hia (E+1<=wc.heap.size):=Aa (η _ _ t2);have HC:=Aa hc.o;have cE:=Aa (AM e.n fun i=>(e.pl i:Int));have cC:Hia (wc.ownsRow (E+1) 3 1 (.slice pa e.n pc) e.n (Aj (il e.n fun i=>(e.pl i:Int)))):=Aa (by
      have h:=hc.o.plc;rw[AM]at h;exact h)
     clear hc t1 ca G0 bG aJ aA;go_wp2_with (at_builtin;refine Al _ rfl _ _ 22 rfl (E+1) 3 (.int .i64 0) 1 8 Tryz.underlying22 Az rfl ae _ e.n _ rfl cC.o [.int .i64 k'] 3 _ rfl ag rfl aj (by have:=aF.o;unfold maxLen;omega) (by have:=aF.o;omega) cP.o ?_)
     intro v8 w8 aH;have aD:Bz wc w8 (E+1) 3 1 (.slice pa (il e.n fun i=>(e.pl i:Int)).length pc) v8 (il e.n fun i=>(e.pl i:Int)).length (Aj (il e.n fun i=>(e.pl i:Int))) [.int .i64 k']:=by
      rw[cE.o];exact aH
     obtain⟨aW,t3y⟩:=HC.o.at2 aD;rw[cE.o]at aW;have cB:=Aa (HC.o.app2 aD);rw[<-cA.o,<-cN.o]at cB;obtain⟨cG,cF,bB⟩:=Ad aH.own;subst bB;clear aH aD HC cC;go_wp2_with fail
     go_roundw
     case rel=>exact⟨k+1,_,_,_,ac,by go_num,cB⟩
     case measure=>exact Ωm
   .have bO:z=-1:=by omega
    have cM:decide ((0:Int)<=z)=false:=aq;have bW:=aV.o bO;have aB:=Aa (aL.o.later aP.o);rw[<-bW]at aB;clear hz0 bO aX bW aE aV aL aP v3;go_wp2_with fail
    go_roundw
    case rel=>exact⟨k+1,_,_,_,ac,by go_num,aB⟩
    case measure=>exact Ωm
  .obtain rfl:k=R:=by omega
   go_wp2_with fail
   go_ret;exact⟨E,rv,pv,rfl,BF.o.at,BF.o.ex⟩
end
section
variable {b p m x0:Nat} {ml:List Int}
theorem Oh(w:World)(hg:Bh w b p m ml x0)(B E t:Nat)(ht:t<=1000)(e:Mg)(rv pv:Value)(hE:F9 w E b t e rv pv)(aB:∀i,i<e.n->e.pl i<t)(f:Nat->Int)(uv:Value)(hu:Ak w uv (il t f))(c0:w.cell? (B,0)=some (.pointer (some (E,0)))):
  Calls Tryz.prog 262 #[uv,(B,0)] w fun r w'=>r= .returned (.bool (decide (0<=Mq t (e.red p m ml f))))/\Ex w w':=by
 have HR:=Aa (KL w hg E t ht e rv pv hE aB f uv hu);obtain⟨z,hz⟩:=nA (Mq t (e.red p m ml f));rw[hz]at HR ⊢;clear hg hE hu hz aB;go_enter Tryz.func262,Tryz.ntmps262
 go_wp2_with fail
 refine HR.o.mono ?_;rintro e' w1⟨v1,rfl,-,aA⟩;have HX:=Aa aA;clear aA;exact zdf
theorem Gq(w:World)(hg:Bh w b p m ml x0)(E t:Nat)(ht:t<=1000)(e:Mg)(rv pv:Value)(hE:F9 w E b t e rv pv)(aB:∀i,i<e.n->e.pl i<t)(R:Nat)(a:Nat->Nat->Int)(v:Value)(hv:B6 w v (Au t R a)):
  Calls Tryz.prog 226 #[(E,0),v] w fun r w'=>r= .returned (.int .i64 (Ja p m ml t e a R))/\Ex w w':=by
 obtain⟨vals,hs,hr⟩:=hv;rw[AI]at hs;have ec:Ex w (w.alloc (.cells #[(E,0)] 259)):=(Ex.refl _).alloc _;have c0:(w.alloc (.cells #[(E,0)] 259)).cell? (w.heap.size,0)=some (.pointer (some (E,0))):=ag;have aD:=Aa (MD (w.alloc (.cells #[(E,0)] 259)) (.pointer (some (w.heap.size,0))) v R vals (hs.ex ec) (fun i=>decide (0<=Mq t (e.red p m ml (a i)))) (fun w1 i u h1 hu=>by
  have hi:i<R:=by
   have h2:=(θ.1 hu).1;have h3:=hs.1;omega
  have hx:=ec.trans h1;exact Oh w1 (hg.ex hx) w.heap.size E t ht e rv pv (hE.ex hx) aB (a i) u ((hr i _ u (CR hi) hu).ex hx) (h1.cell c0)))
 obtain⟨-,va,vc,rfl,-,-,-⟩:=hs;have aC:=Aa ec;clear hr hg hE aB c0 ec;go_enter Tryz.func226,Tryz.ntmps226
 go_wp2_with fail
 refine aD.o.mono ?_;rintro e' w1⟨rfl,aA⟩;have HX:=Aa aA;clear aA;go_wp2_with fail
 go_ret;exact⟨rfl,aC.o.trans HX.o⟩
end
theorem Pv(w:World)(i n:Nat)(hi:i<n)(hn:n<=1000):
  Calls Tryz.prog 240 #[i,n] w fun r w'=>∃g,r= .returned (.slice (some ⟨g,0,none⟩) n n)/\AJ w' w.heap.size 3 g n (iv (Ay (fun _=>0) i 1))/\Ex w w':=by
 obtain⟨B,hB⟩:=nA w.heap.size;have aA:=Aa hB;go_enter Tryz.func240,Tryz.ntmps240
 go_wp2_with (at_make;refine Ar _ rfl _ _ 22 rfl 3 (.int .i64 0) 8 Tryz.underlying22 Az rfl _ n rfl rfl rfl ac ai ?_)
 intro w3 hown hx3
 try simp only[hB]at hown ⊢
 have co:=hown.cell hi;have cf:=hown.frz i;have i1:(0:Int)<=(i:Int):=ac;have i2:(i:Int)<(n:Int):=ac;have HO:Hia (AJ (w3.setCell (B,i) (.int .i64 1)) B 3 B n (iv (Ay (fun _=>(0:Int)) i 1))):=Aa (by rw[<-CF];exact hown.set i _);have HX:Hia (Ex w (w3.setCell (B,i) (.int .i64 1))):=Aa (hown.exSet ac hx3 i _);clear hown hx3 hB;go_wp2_with fail
 go_ret;exact⟨B,rfl,by rw[aA.o];exact HO.o,HX.o⟩
structure Mw(w:World)(A b n:Nat)(v1 v2:Value):Prop where
 c0:w.cell? (A,0)=some (.pointer (some (b,0)))
 c4:w.cell? (A,4)=some (.int .i64 n)
 c5:w.cell? (A,5)=some v1
 c10:w.cell? (A,10)=some v2
theorem Mw.ex{w w':World}{A b n:Nat}{v1 v2:Value}(h:Mw w A b n v1 v2)(hx:Ex w w'):Mw w' A b n v1 v2:=⟨hx.cell h.c0,hx.cell h.c4,hx.cell h.c5,hx.cell h.c10⟩
theorem KH(N k:Nat)(a:Nat->Nat->Int):Au N (k+1) a=Au N k a ++ [il N (a k)]:=by unfold Au;rw[List.range_succ,List.map_append];rfl
section
variable {b p m x0:Nat} {ml:List Int}
theorem aw{P:Prop}(h:P:=by rw[List.getD_eq_getElem?_getD,List.getElem?_eq_getElem hi];rfl):P:=h
theorem MW(w:World)(hg:Bh w b p m ml x0)(A n:Nat)(hn:n<=64)(v1 v2:Value)(hP:Mw w A b n v1 v2)(l1 l2:List (List Int))(h1:B6 w v1 l1)(h2:B6 w v2 l2)(bA:∀r∈l1,r.length=n)(aZ:∀r∈l2,r.length=n)(bK:l1.length<=256)(bJ:l2.length<=256)
  (tl sl:List Int) (tv sv:Value) (ht:Ak w tv tl) (hs:Ak w sv sl) (bI:sl.length=tl.length) (bG:tl.length<=n) (aY:BW tl n=true):
  Calls Tryz.prog 224 #[(A,0),.agg #[tv,sv]] w fun r w'=>∃u1 u2,r= .returned (.tuple #[u1,u2])/\B6 w' u1 (Au tl.length l1.length fun i=>F7 p m ml sl (An l1 i))/\B6 w' u2 (Au tl.length l2.length fun i=>IX tl (An l2 i))/\Ex w w':=by
 obtain⟨b0,b1,eb,bH⟩:=AQ w tv sv;obtain⟨N,hN⟩:=nA tl.length;have aQ:=Aa (fun i (hi:i<l1.length)=>show l1[i]?=some (l1.getD i [])/\(l1.getD i []).length=n from by
  have h:l1[i]?=some (l1.getD i []):=aw;exact⟨h,bA _ (ι h)⟩)
 have aP:=Aa (fun i (hi:i<l2.length)=>show l2[i]?=some (l2.getD i [])/\(l2.getD i []).length=n from by
  have h:l2[i]?=some (l2.getD i []):=aw;exact⟨h,aZ _ (ι h)⟩)
 have bP:=Aa (fun (w1:World) (hw:Ex w w1) (x:List Int) (xv:Value) (hx:Ak w1 xv x) (hl:x.length=n)=>La w1 (hg.ex hw) A (hw.cell hP.c0) N ac tl sl x tv sv xv (ht.ex hw) (hs.ex hw) hx hN ac ac);have bO:=Aa (fun (w1:World) (hw:Ex w w1) (y:List Int) (yv:Value) (hy:Ak w1 yv y) (hl:y.length=n)=>KE w1 A N ac tl y tv sv yv (ht.ex hw) hy hN (by rw[hl];exact aY));obtain⟨ra,rc,rfl,-,r2,r3⟩:=h1.open;obtain⟨sa,sc,rfl,-,s2,s3⟩:=h2.open;unfold maxLen at r2 s2;have R3:=Aa r3;have S3:=Aa s3;have p5:=eb.cell hP.c5;have aE:=eb.cell hP.c10;have aX:=Aa eb;obtain⟨F1,aV⟩:∃F,(fun i=>F7 p m ml sl (An l1 i))=F:=⟨_,rfl⟩;obtain⟨F2,aU⟩:∃F,(fun i=>IX tl (An l2 i))=F:=⟨_,rfl⟩;have bR:=Aa (fun i=>congrFun aV i);have bQ:=Aa (fun i=>congrFun aU i);rw[aV,aU,hN];obtain⟨R1,bC⟩:∃R,l1.length=R:=⟨_,rfl⟩;obtain⟨R2,bB⟩:∃R,l2.length=R:=⟨_,rfl⟩;rw[bC]at R3 aQ bK p5 ⊢;rw[bB]at S3 aP bJ aE ⊢;clear hg hP h1 h2 bA aZ ht hs r3 s3 aV aU aY eb bC bB hN bI bG;go_enter Tryz.func224,Tryz.ntmps224
 go_wp2_with fail
 obtain⟨B,hB⟩:=nA w.heap.size;rw[hB]at b0 b1
 try simp only[hB]
 clear hB bH;generalize w.alloc (.cells #[tv,sv] 71)=w1 at *;have B0:=Aa b0;have B1:=Aa b1;have bN:=Aa aE;clear p5 aE b0 b1
 go_loopw [4,16] (fun cv k' wr=>∃(k:Nat) (vals:List Value),k<=R1/\k'= .int .i64 k/\Hia (BI wr w1.heap.size cv (Au N k F1) vals)/\Hia (Ex w1 wr)) (fun _ k' _=>R1-(intOf k').toNat)
 case atStart=>exact⟨0, [],ac,rfl,Aa (BI.nil _ _),Aa (Ex.refl _)⟩
 case round=>
  obtain⟨k,vals,hk,rfl,hm,hx⟩:=hrel;obtain⟨ca,cc,bM⟩:=Ad hm.o.cvo;subst bM;by_cases hkR:k<R1
  .obtain⟨rb,ro,rfl,aI⟩:=R3.o ac;obtain⟨aL,aK⟩:=aQ.o k hkR;obtain⟨uv,aH,aG⟩:=aI k _ aL;have aB:=aX.o.trans hx.o;have cu:=aB.cell aH;have b0:=hx.o.cell B0.o;have b1:=hx.o.cell B1.o;have i1:(0:Int)<=(k:Int):=by omega
   have i2:(k:Int)<(R1:Int):=ac;have HC:=Aa (bP.o wr aB _ uv (aG.ex aB) aK);rw[show(F7 p m ml sl fun j=>(l1.getD k []).getD j 0)=F1 k from bR.o k]at HC;have HM:=Aa hm.o;have HX:=Aa hx.o;have aO:=Aa (AI N k F1);clear aI aL aK aH aG aB hm hx;go_wp2_with (first
        | (go_at_call 228
           refine HC.o.mono ?_;rintro e w5⟨g5,rfl,aJ,aF⟩;have aC:=Aa aJ;have aN:=Aa aF;clear aJ aF;have aD:=Aa (HM.o.ex aN.o);have aM:=Aa (HX.o.trans aN.o);have HL:Hia (w5.ownsRow w1.heap.size 3 1 (.slice (some (g5,0)) N N) (il N (F1 k)).length (Aj (il N (F1 k)))):=Aa (by
             rw[AM,Cy];exact Bj aC.o (by have:=HX.o.size;omega))
           have aR:Hia (AD (.slice (some (g5,0)) N N) (.slice ca (Au N k F1).length cc)):=Aa (by
             right;show some g5≠_
             intro e;have:=(HM.o.cvo.lt g5 e.symm).2;have:=aC.o.lt.1;omega)
           clear HM aC)
        | (at_builtin;refine Al _ rfl _ _ 37 rfl w1.heap.size 22 (.slice none 0 0) 1 24 Tryz.underlying37 BZ rfl ae _ (Au N k F1).length _ rfl aD.o.cvo [.slice (some ⟨g5,0,none⟩) N N] 22 _ rfl ag rfl aj (by have:=aO.o;unfold maxLen;omega) (by have:=aO.o;omega) aM.o.size ?_))
   intro v2 w6 aA;have HO:=Aa (aD.o.app HL.o aR.o aA);have HE:=Aa (aA.ex aM.o (ζ _));obtain⟨va,vc,aT⟩:=Ad aA.own;subst aT;rw[<-KH]at HO;clear aA HL aR aD;go_wp2_with fail
   go_roundw
   case rel=>exact⟨k+1,_,ac,by go_num,HO,HE⟩
   case measure=>exact Ωm
  .obtain rfl:k=R1:=by omega
   have HM:=Aa hm.o;have HX:=Aa hx.o;have aE:=hx.o.cell bN.o;have bE:=Aa hm.o.msl;obtain⟨w8,aS⟩:∃w8,w8=wr:=⟨_,rfl⟩;rw[<-aS]at HM HX bE;have H8:=Aa aS;clear hm hx;go_wp2_with fail
   go_loopw [5,34] (fun cv k' wr=>∃(k:Nat) (vals:List Value),k<=R2/\k'= .int .i64 k/\Hia (BI wr w8.heap.size cv (Au N k F2) vals)/\Hia (Ex w8 wr)) (fun _ k' _=>R2-(intOf k').toNat)
   case atStart=>exact⟨0, [],ac,rfl,Aa (BI.nil _ _),Aa (by rw[H8.o];exact Ex.refl _)⟩
   case round=>
    clear aE aS;obtain⟨j,vals2,hj,rfl,hm,hx⟩:=hrel;obtain⟨da,dc,bL⟩:=Ad hm.o.cvo;subst bL;by_cases hjR:j<R2
    .obtain⟨rb,ro,rfl,aI⟩:=S3.o ac;obtain⟨aL,aK⟩:=aP.o j hjR;obtain⟨uv,aH,aG⟩:=aI j _ aL;have aB:=(aX.o.trans HX.o).trans hx.o;have cu:=aB.cell aH;have b0:=(HX.o.trans hx.o).cell B0.o;have b1:=(HX.o.trans hx.o).cell B1.o;have i1:(0:Int)<=(j:Int):=by omega
     have i2:(j:Int)<(R2:Int):=ac;have HC:=Aa (bO.o wr aB _ uv (aG.ex aB) aK);rw[show(IX tl fun bF=>(l2.getD j []).getD bF 0)=F2 j from bQ.o j]at HC;have aW:=Aa hm.o;have bD:=Aa hx.o;have aO:=Aa (AI N j F2);clear aI aL aK aH aG aB hm hx;go_wp2_with (first
            | (go_at_call 227
               refine HC.o.mono ?_;rintro e w5⟨g5,rfl,aJ,aF⟩;have aC:=Aa aJ;have aN:=Aa aF;clear aJ aF;have aD:=Aa (aW.o.ex aN.o);have aM:=Aa (bD.o.trans aN.o);have HL:Hia (w5.ownsRow w8.heap.size 3 1 (.slice (some (g5,0)) N N) (il N (F2 j)).length (Aj (il N (F2 j)))):=Aa (by
                 rw[AM,Cy];exact Bj aC.o (by have:=bD.o.size;omega))
               have aR:Hia (AD (.slice (some (g5,0)) N N) (.slice da (Au N j F2).length dc)):=Aa (by
                 right;show some g5≠_
                 intro e;have:=(aW.o.cvo.lt g5 e.symm).2;have:=aC.o.lt.1;omega)
               clear aW aC)
            | (at_builtin;refine Al _ rfl _ _ 37 rfl w8.heap.size 22 (.slice none 0 0) 1 24 Tryz.underlying37 BZ rfl ae _ (Au N j F2).length _ rfl aD.o.cvo [.slice (some ⟨g5,0,none⟩) N N] 22 _ rfl ag rfl aj (by have:=aO.o;unfold maxLen;omega) (by have:=aO.o;omega) aM.o.size ?_))
     intro v2 w6 aA;have HO:=Aa (aD.o.app HL.o aR.o aA);have HE:=Aa (aA.ex aM.o (ζ _));obtain⟨va,vc,aT⟩:=Ad aA.own;subst aT;rw[<-KH]at HO;clear aA HL aR aD;go_wp2_with fail
     go_roundw
     case rel=>exact⟨j+1,_,ac,by go_num,HO,HE⟩
     case measure=>exact Ωm
    .obtain rfl:j=R2:=by omega
     go_wp2_with fail
     go_ret2;exact⟨_,_,rfl,bE.o.ex hx.o,hm.o.msl,(aX.o.trans HX.o).trans hx.o⟩
end
theorem Im{w:World}{base g n:Nat}{i:Nat}(h:AJ w base 3 g n (iv (Ay (fun _=>0) i 1))):Ak w (.slice (some (g,0)) n n) (S5 i n):=h.isl
section
variable {b p m x0:Nat} {ml:List Int}
theorem JB(w:World)(hg:Bh w b p m ml x0)(aI:1<=x0)(aH:x0<p^m)(A n:Nat)(hn:n<=64)(v1 v2:Value)(hP:Mw w A b n v1 v2)(l1 l2:List (List Int))(h1:B6 w v1 l1)(h2:B6 w v2 l2)(bN:∀r∈l1,r.length=n)(bM:∀r∈l2,r.length=n)(bP:l1.length<=256)(bO:l2.length<=256)
  (tl sl:List Int) (tv sv:Value) (ht:Ak w tv tl) (hs:Ak w sv sl) (bK:sl.length=tl.length) (bJ:tl.length<=n) (bL:BW tl n=true):
  Calls Tryz.prog 192 #[(A,0),.agg #[tv,sv]] w fun r w'=>∃mv,r= .returned (.tuple #[.int .i64 (E3 p m ml l1 l2 tl sl).1,mv])/\Ak w' mv (JS l1.length l2.length (E3 p m ml l1 l2 tl sl))/\(∀B,mv.ownBlock=some B->w.heap.size<=B)/\Ex w w':=by
 obtain⟨b0,b1,eb,hsz⟩:=AQ w tv sv;have aG:=Aa (MW _ (hg.ex eb) A n hn v1 v2 (hP.ex eb) l1 l2 (h1.ex eb) (h2.ex eb) bN bM bP bO tl sl tv sv (ht.ex eb) (hs.ex eb) bK bJ bL);have HA:=Aa hP.c0;have HG:=Aa hg;obtain⟨W,hW⟩:=nA (E3 p m ml l1 l2 tl sl);have aD:=hW;unfold E3 at aD;rw[hW];obtain⟨N,hN⟩:=nA tl.length;rw[hN]at aG aD bJ;obtain⟨F1,bV⟩:∃F,(fun i=>F7 p m ml sl (An l1 i))=F:=⟨_,rfl⟩;obtain⟨F2,bU⟩:∃F,(fun i=>IX tl (An l2 i))=F:=⟨_,rfl⟩;rw[bV,bU]at aG aD;obtain⟨R1,bT⟩:∃R,l1.length=R:=⟨_,rfl⟩;obtain⟨R2,bS⟩:∃R,l2.length=R:=⟨_,rfl⟩;rw[bT]at aG aD bP ⊢;rw[bS]at aG aD bO ⊢;obtain⟨I1,aQ⟩:∃i,Ja p m ml N (Hf p m ml N F2 R2) F1 R1=i:=⟨_,rfl⟩;obtain⟨I2,aP⟩:∃i,Ja p m ml N (Hf p m ml N F1 R1) F2 R2=i:=⟨_,rfl⟩;have bF:Hia (I1<R1/\-1<=I1):=Aa (by rw[<-aQ];exact OI _ _);have bE:Hia (I2<R2/\-1<=I2):=Aa (by rw[<-aP];exact OI _ _);simp only[aQ,aP]at aD;have bD:=Aa (fun (w1:World) (hw:Ex w w1) (E:Nat) (rv pv:Value) (hE:F9 w1 E b N (Hf p m ml N F2 R2) rv pv) (v:Value) (hv:B6 w1 v (Au N R1 F1))=>Gq w1 (hg.ex hw) E N ac _ rv pv hE (Kr N F2 R2) R1 F1 v hv);have bC:=Aa (fun (w1:World) (hw:Ex w w1) (E:Nat) (rv pv:Value) (hE:F9 w1 E b N (Hf p m ml N F1 R1) rv pv) (v:Value) (hv:B6 w1 v (Au N R2 F2))=>Gq w1 (hg.ex hw) E N ac _ rv pv hE (Kr N F1 R1) R2 F2 v hv);rw[aQ]at bD;rw[aP]at bC;have aS:=Aa aD;have cC:=Aa eb;clear hg hP h1 h2 bN bM ht hs bV bU bL bT bS hN bK hW aD aQ aP eb;go_enter Tryz.func192,Tryz.ntmps192
 go_wp2_with fail
 refine aG.o.mono ?_;rintro e w1⟨u1,u2,rfl,aU,aT,bI⟩;have aZ:=Aa (cC.o.trans bI);have aE:=Aa aU;have aC:=Aa aT;obtain⟨ua,uc,rfl,-,ul,-⟩:=aU.open;obtain⟨va,vc,rfl,-,vl,-⟩:=aT.open;rw[AI]at aE aC ⊢;rw[AI];have aL:=Aa (Ks w1 (HG.o.ex aZ.o) aI aH A (aZ.o.cell HA.o) N R2 ac ac F2 _ aC.o);clear aU aT bI aG;go_wp2_with fail
 refine aL.o.mono ?_;rintro e w2⟨E1,rv1,pv1,rfl,bR,aO⟩;have bW:=Aa (aZ.o.trans aO);have aE:=Aa (aE.o.ex aO);have aC:=Aa (aC.o.ex aO);have aM:=Aa (bD.o w2 bW.o E1 rv1 pv1 bR _ aE.o);clear bR aO aL bD;go_wp2_with fail
 refine aM.o.mono ?_;rintro e w3⟨rfl,aN⟩;have aJ:=Aa (bW.o.trans aN);have aE:=Aa (aE.o.ex aN);have aC:=Aa (aC.o.ex aN);clear aN aM;by_cases hi1:0<=I1
 .have aA:=aS.o;rw[if_pos hi1]at aA;subst aA;obtain⟨i,rfl⟩:=δi hi1;have bY:decide ((0:Int)<=(i:Int))=true:=by simp
  have aX:i<R1:=by have:=bF.o.1;omega
  have bA:=Aa (Pv w3 i R1 aX ac);clear hi1 aS;go_wp2_with fail
  refine bA.o.mono ?_;rintro e w4⟨g,rfl,aW,aF⟩;have cB:=Aa aW;have aR:=Aa (aJ.o.trans aF);have bB:Hia (w.heap.size<=g):=Aa (μ aJ.o.size aW.lt.1);clear aW aF;go_wp2_with fail
  go_ret2;refine⟨_,rfl,?_,fun B hB=>?_,aR.o⟩
  .unfold JS;rw[if_pos rfl];exact Im cB.o
  .injection hB with hB;rw[<-hB];exact bB.o
 .have aA:=aS.o;rw[if_neg hi1]at aA;have bY:decide ((0:Int)<=I1)=false:=by simpa using hi1
  have aB:=Aa aA;have aK:=Aa (Ks w3 (HG.o.ex aJ.o) aI aH A (aJ.o.cell HA.o) N R1 ac ac F1 _ aE.o);clear hi1 aS aA;go_wp2_with fail
  refine aK.o.mono ?_;rintro e w4⟨E2,rv2,pv2,rfl,bQ,aF⟩;have aR:=Aa (aJ.o.trans aF);have aC:=Aa (aC.o.ex aF);have aM:=Aa (bC.o w4 aR.o E2 rv2 pv2 bQ _ aC.o);clear bQ aF aK bC;go_wp2_with fail
  refine aM.o.mono ?_;rintro e w5⟨rfl,bH⟩;have aY:=Aa (aR.o.trans bH);clear bH aM;by_cases hi2:0<=I2
  .have aA:=aB.o;rw[if_pos hi2]at aA;subst aA;obtain⟨i,rfl⟩:=δi hi2;have bX:decide ((0:Int)<=(i:Int))=true:=by simp
   have aX:i<R2:=by have:=bE.o.1;omega
   have bA:=Aa (Pv w5 i R2 aX ac);clear hi2 aB;go_wp2_with fail
   refine bA.o.mono ?_;rintro e w6⟨g,rfl,aV,bG⟩;have cA:=Aa aV;have bZ:=Aa (aY.o.trans bG);have bB:Hia (w.heap.size<=g):=Aa (μ aY.o.size aV.lt.1);clear aV bG;go_wp2_with fail
   go_ret2;refine⟨_,rfl,?_,fun B hB=>?_,bZ.o⟩
   .unfold JS;rw[if_neg (by show ¬((1:Int)=0);decide),if_pos rfl];exact Im cA.o
   .injection hB with hB;rw[<-hB];exact bB.o
  .have aA:=aB.o;rw[if_neg hi2]at aA;subst aA;have bX:decide ((0:Int)<=I2)=false:=by simpa using hi2
   clear hi2 aB;go_wp2_with fail
   go_ret2;exact⟨_,rfl,Bd _,fun B hB=>by simp[Value.ownBlock]at hB,aY.o⟩
end
structure AR(DM:World->Nat->Prop)(w w':World):Prop where
 size:w.heap.size<=w'.heap.size
 blk:∀B,B<w.heap.size->¬DM w B->w'.heap[B]?=w.heap[B]?/\¬DM w' B
theorem AR.refl(DM:World->Nat->Prop)(w:World):AR DM w w:=⟨ζ _,fun B _ h=>⟨rfl,h⟩⟩
theorem AR.trans{DM:World->Nat->Prop}{a b c:World}(h:AR DM a b)(k:AR DM b c):AR DM a c:=
 ⟨μ h.size k.size,fun B hB hn=>by
  have h1:=h.blk B hB hn;have h2:=k.blk B (Nat.lt_of_lt_of_le hB h.size) h1.2;exact⟨h2.1.trans h1.1,h2.2⟩⟩
theorem IF{w w':World}{B o:Nat}{v:Value}(h:w'.heap[B]?=w.heap[B]?)(hc:w.cell? (B,o)=some v):w'.cell? (B,o)=some v:=by
 rw[<-hc];unfold World.cell?;rw[h]
theorem AR.cell{DM:World->Nat->Prop}{w w':World}(h:AR DM w w'){B o:Nat}{v:Value}(hn:¬DM w B)(hc:w.cell? (B,o)=some v):w'.cell? (B,o)=some v:=
 IF (h.blk B (η _ _ hc) hn).1 hc
def Da(DM:World->Nat->Prop)(w:World)(v:Value)(l:List Int):Prop:=Ak w v l/\(l≠ []->∀B,v.ownBlock=some B->¬DM w B)
theorem Da.keep{DM:World->Nat->Prop}{w w':World}{v:Value}{l:List Int}(h:Da DM w v l)(k:AR DM w w'):Da DM w' v l:=by
 obtain⟨h1,h2⟩:=h
 cases l with
 | nil=>
  obtain⟨g1,a,cap,g2,g3,g4,g5⟩:=h1;exact⟨⟨g1,a,cap,g2,g3,g4,fun hn=>absurd hn ag⟩,fun hn=>absurd rfl hn⟩
 | cons x l=>
  obtain⟨g1,a,cap,g2,g3,g4,g5⟩:=h1;obtain⟨b,o,rfl,g7⟩:=g5 ag;have hb:¬DM w b:=h2 ag b (by rw[g2];rfl);have aA:b<w.heap.size:=η _ _ (g7 0 (.int .i64 x) (by simp[Aj]));have hk:=k.blk b aA hb;refine⟨⟨g1,_,cap,g2,g3,g4,fun _=>⟨b,o,rfl,fun j u hu=>IF hk.1 (g7 j u hu)⟩⟩,fun _ B hB=>?_⟩;rw[g2]at hB;injection hB with hB;rw[<-hB];exact hk.2
theorem Da.fresh{DM:World->Nat->Prop}{w:World}{v:Value}{l:List Int}(h:Ak w v l)(hB:∀B,v.ownBlock=some B->¬DM w B):Da DM w v l:=⟨h,fun _=>hB⟩
structure VO{σ:Type}(St:σ->World->Prop)(DM:World->Nat->Prop):Prop where
 ex:∀s w w',St s w->Ex w w'->St s w'
 lt:∀s w B,St s w->DM w B->B<w.heap.size
 dx:∀s w w' B,St s w->Ex w w'->DM w' B->DM w B
section
variable {σ:Type} {St:σ->World->Prop} {DM:World->Nat->Prop} {s:σ} {w w':World}
theorem VO.keeps(H:VO St DM)(hs:St s w)(hx:Ex w w'):AR DM w w':=
 ⟨hx.size,fun B hB hn=>⟨hx.block B hB,fun h=>hn (H.dx s w w' B hs hx h)⟩⟩
theorem VO.new(H:VO St DM)(hs:St s w)(hx:Ex w w'){B:Nat}(hB:w.heap.size<=B):¬DM w' B:=fun h=>by
 have:=H.lt s w B hs (H.dx s w w' B hs hx h);omega
end
section
variable {σ:Type} {step:σ->List Int->List Int->σ × Int} {tl sl:List Int} {j q:Nat} {s:σ}
theorem PG{c:Nat}(h:(Gb step tl sl j c s).2≠0):∀k,Gb step tl sl j (c+k) s=Gb step tl sl j c s
 | 0=>rfl
 | k+1=>by
  show(if (Gb step tl sl j (c+k) s).2≠0 then Gb step tl sl j (c+k) s else _)=_
  rw[PG h k,if_pos h]
theorem PC{j:Nat}(h:(Ek step q tl sl j s).2≠0):∀k,Ek step q tl sl (j+k) s=Ek step q tl sl j s
 | 0=>rfl
 | k+1=>by
  show(if (Ek step q tl sl (j+k) s).2≠0 then Ek step q tl sl (j+k) s else _)=_
  rw[PC h k,if_pos h]
theorem Wo{c:Nat}(h:(Gb step tl sl j c s).2=0):Gb step tl sl j (c+1) s=step (Gb step tl sl j c s).1 (tl ++ [(j:Int)]) (sl ++ [((c+1:Nat):Int)]):=by
 show(if (Gb step tl sl j c s).2≠0 then _ else _)=_
 rw[if_neg (by simp[h])]
theorem Wm{j:Nat}(h:(Ek step q tl sl j s).2=0)(hc:tl.contains (j:Int)=true):Ek step q tl sl (j+1) s=Ek step q tl sl j s:=by
 show(if (Ek step q tl sl j s).2≠0 then _ else if _ then _ else _)=_
 rw[if_neg (by simp[h]),if_pos hc]
theorem NY{j:Nat}(h:(Ek step q tl sl j s).2=0)(hc:tl.contains (j:Int)=false):Ek step q tl sl (j+1) s=Gb step tl sl j (q-1) (Ek step q tl sl j s).1:=by
 show(if (Ek step q tl sl j s).2≠0 then _ else if _ then _ else _)=_
 rw[if_neg (by simp[h]),if_neg (by rw[hc];decide)]
theorem Tf{j n c:Nat}(h:(Ek step q tl sl j s).2=0)(hc:tl.contains (j:Int)=false)(hj:j<n)(hcq:c<=q-1)(he:(Gb step tl sl j c (Ek step q tl sl j s).1).2≠0):
  Ek step q tl sl n s=Gb step tl sl j c (Ek step q tl sl j s).1:=by
 have h1:=NY h hc;have h2:=PG he (q-1-c);rw[show c+(q-1-c)=q-1 from ac]at h2;rw[h2]at h1;have h3:=PC (step:=step) (q:=q) (tl:=tl) (sl:=sl) (s:=s) (j:=j+1) (by rw[h1];exact he) (n-(j+1));rw[show j+1+(n-(j+1))=n from ac,h1]at h3;exact h3
end
theorem FY(w:World)(l:List Int)(v:Value)(hl:Ak w v l)(hn2:l.length<=1000):
  Calls Tryz.prog 154 #[v] w fun r w'=>∃v',r= .returned v'/\w'.ownsRow w.heap.size 3 1 v' l.length (Aj l)/\Ex w w':=by
 have HL:=Aa hl;obtain⟨a,cap,rfl,s1,s2,s3⟩:=hl.open;have aD:∀u∈Aj l,u.oneCell'=true:=by
  exact zdb
 have aG:=Aa aD;clear hl aD
 cases a with
 | none=>
  have h0:l= []:=by
   exact zcC
  subst h0;have aA:=fun w'=>AS (P:=Tryz.prog) w' 22 3 none 0 cap Tryz.underlying22;simp only[Option.isNone]at aA;clear s1 s2 s3;go_enter Tryz.func154,Tryz.ntmps154
  go_wp2_with fail
  go_ret;exact⟨_,rfl,ϋ _ _ _ _,Ex.refl _⟩
 | some ad=>
  have aA:=fun w'=>AS (P:=Tryz.prog) w' 22 3 (some ad) l.length cap Tryz.underlying22;simp only[Option.isNone]at aA;clear s3;go_enter Tryz.func154,Tryz.ntmps154
  go_wp2_with (at_builtin;refine A6 _ rfl _ _ 22 rfl w.heap.size 3 (.int .i64 0) 1 8 Tryz.underlying22 Az rfl ae _ 0 [] rfl (Bm w 3) (.slice (some ad) l.length cap) l.length (Aj l) rfl (HL.o.ex ((Ex.refl w).alloc _)) aG.o ai ac ag ?_)
  intro v1 w1 aB aE aF;have aC:Ex w w1:=Ex.grown ((Ex.refl w).alloc _) (Bm w 3) (ζ _) aE;have HI:=Aa aB;have HX:=Aa aC;clear aB aE aF aC aA;go_wp2_with fail
  go_ret;exact⟨_,rfl,HI.o,HX.o⟩
end Go.Proofs.YtehieobniamagaaGreat
