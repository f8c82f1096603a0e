/- Walk of perm.newTower; insert at all measures. -/
import Derived.Deep.RegionHeld3
import Derived.Test.YtehieobniamagaaGreatZp15
import Derived.Test.YtehieobniamagaaGreatZp28
namespace Go.Proofs.YtehieobniamagaaGreat
set_option linter.unusedVariables false
set_option linter.unusedSimpArgs false
set_option maxRecDepth 100000
set_option maxHeartbeats 4000000
section
open Go.RowKit
theorem LB{base n tb rb gb:Nat}{rr:Nat->Nat}(aA:1<=n)(hn:n<=64):∀m,Q3 base n tb rb gb rr m
 | 0=>fun w mb t q u b aB hb=>by
  have h1:1*(n+1)<=(n-b)*(n+1):=Nat.mul_le_mul_right _ ac;unfold Qk at aB;omega
 | m+1=>Sr aA hn m (LB aA hn m) (JE aA hn m (LB aA hn m))
theorem VV{base n tb rb gb:Nat}{rr:Nat->Nat}(aA:1<=n)(hn:n<=64)(m:Nat):UH base n tb rb gb rr m:=JE aA hn m (LB aA hn m)
theorem Pn:(Tryz.prog.info? 37).map (fun i=>(i.zero,i.size,i.bytes))=some (some (.slice none 0 0),1,24):=ah
structure NT(w0 wr:World)(n tb rb gb b:Nat)(rr:Nat->Nat)(V:Nat->Nat->Value):Prop where
 c0:wr.cell? ⟨tb,0,none⟩=some (.int .i64 n)
 c1:wr.cell? ⟨tb,1,none⟩=some (.slice (some ⟨rb,0,none⟩) n n)
 c2:wr.cell? ⟨tb,2,none⟩=some (.slice (some ⟨gb,0,none⟩) n n)
 ro:AG wr w0.heap.size 37 rb n (fun c=>if c<b then .slice (some ⟨rr c,0,none⟩) n n else .slice none 0 0)
 row:∀c,c<b->AG wr w0.heap.size 22 (rr c) n (V c)
 nilv:∀c x,c<b->x<n->x≠c->V c x= .slice none 0 0
 idv:∀c,c<b->∃g,V c c= .slice (some ⟨g,0,none⟩) n n/\AG wr w0.heap.size 3 g n (iv fun i=>(ED i:Int))/\g≠gb/\g≠rb/\∀d,d<b->g≠rr d
 go:AG wr w0.heap.size 37 gb n (fun _=> .slice none 0 0)
 d1:tb≠rb/\tb≠gb/\rb≠gb
 d2:∀c,c<b->rr c≠tb/\rr c≠rb/\rr c≠gb
 d3:∀c d,c<b->d<b->rr c=rr d->c=d
 ex:Ex w0 wr
theorem NT.next{w0 wr w2 w4:World}{n tb rb gb b rx gi:Nat}{rr:Nat->Nat}{V:Nat->Nat->Value}(h:NT w0 wr n tb rb gb b rr V)(hb:b<n)
  (aB:Ex wr w2) (hr:AG w2 wr.heap.size 22 rx n (fun _=> .slice none 0 0))
  (aA:Ex (w2.setCell ⟨rb,b,none⟩ (.slice (some ⟨rx,0,none⟩) n n)) w4) (hi:AG w4 (w2.setCell ⟨rb,b,none⟩ (.slice (some ⟨rx,0,none⟩) n n)).heap.size 3 gi n (iv fun i=>(ED i:Int))):
  NT w0 (w4.setCell ⟨rx,b,none⟩ (.slice (some ⟨gi,0,none⟩) n n)) n tb rb gb (b+1) (Ax rr b rx) (fun c=>if c=b then Ax (fun _=> .slice none 0 0) b (.slice (some ⟨gi,0,none⟩) n n) else V c):=by
 have aG:(w2.setCell ⟨rb,b,none⟩ (.slice (some ⟨rx,0,none⟩) n n)).heap.size=w2.heap.size:=bu;have hrl:=hr.lt;have aL:=hi.lt;rw[aG]at aL;have hz2:=aB.size;have aJ:=h.ex.size;have aI:∀ {a:Addr} {u:Value},wr.cell? a=some u->a.block<wr.heap.size:=fun k=>World.block_lt_of_cell? _ _ k;have aK:=aI h.c0;have hrb:=h.ro.lt.2;have hgb:=h.go.lt.2;have aD:rx≠tb/\rx≠rb/\rx≠gb:=by dsimp only at aK;omega
 have aC:∀ {a:Addr} {u:Value},wr.cell? a=some u->a.block≠rb->(w4.setCell ⟨rx,b,none⟩ (.slice (some ⟨gi,0,none⟩) n n)).cell? a=some u:=fun {a u} k k2=>by
  have k3:=aI k;rw[World.cell?_setCell_other _ _ _ _ (by
    intro e;have:rx=a.block:=by rw[<-e]
    omega)]
  refine aA.cell ?_;rw[World.cell?_setCell_other _ _ _ _ (by intro e;exact k2 (by rw[<-e]))];exact aB.cell k
 have own:∀ {e:TypeId} {g m:Nat} {c:Nat->Value},AG wr w0.heap.size e g m c->g≠rb->AG (w4.setCell ⟨rx,b,none⟩ (.slice (some ⟨gi,0,none⟩) n n)) w0.heap.size e g m c:=fun {e g m c} k k2=>by
  have k3:=k.lt.2;exact(((k.ex aB).other (a:=⟨rb,b,none⟩) k2 _).ex aA).other (a:=⟨rx,b,none⟩) (by show g≠rx;omega) _
 have aE:AG w4 w0.heap.size 22 rx n (fun _=> .slice none 0 0):=((hr.other (a:=⟨rb,b,none⟩) aD.2.1 _).ex aA).mono aJ;have aM:Ex w0 w4:=((h.ex.trans aB).setCell (p:=⟨rb,b,none⟩) h.ro.lt.1 _).trans aA;refine⟨aC h.c0 h.d1.1,aC h.c1 h.d1.1,aC h.c2 h.d1.1,?_,fun c hc=>?_,fun c x hc hx aF=>?_,fun c hc=>?_,own h.go (Ne.symm h.d1.2.2),h.d1,fun c hc=>?_,fun c d hc hd e=>?_,aE.exSet (Nat.le_refl _) aM b _⟩
 .have k:=(((h.ro.ex aB).set b (.slice (some ⟨rx,0,none⟩) n n)).ex aA).other (a:=⟨rx,b,none⟩) (by show rb≠rx;exact Ne.symm aD.2.1) (.slice (some ⟨gi,0,none⟩) n n);refine k.congr fun j hj=>?_;unfold Ax;dsimp only;by_cases e:j=b
  .subst e;rw[if_pos rfl,if_pos ac,if_pos rfl]
  .rw[if_neg e,if_neg e];by_cases e2:j<b
   .rw[if_pos e2,if_pos ac]
   .rw[if_neg e2,if_neg ac]
 .by_cases e:c=b
  .subst e;rw[Ab,if_pos rfl];exact aE.set c _
  .rw[Ae _ _ e,if_neg e];exact own (h.row c ac) (h.d2 c ac).2.1
 .show(if c=b then Ax (fun _=> .slice none 0 0) b (.slice (some ⟨gi,0,none⟩) n n) else V c) x=_
  by_cases e:c=b
  .subst e;rw[if_pos rfl,Ae _ _ aF]
  .rw[if_neg e];exact h.nilv c x ac hx aF
 .show ∃g,(if c=b then Ax (fun _=> .slice none 0 0) b (.slice (some ⟨gi,0,none⟩) n n) else V c) c=_/\_
  have aH:gi≠rx:=ac;by_cases e:c=b
  .subst e;rw[if_pos rfl,Ab];refine⟨gi,rfl,(hi.mono (by rw[aG];omega)).other (a:=⟨rx,c,none⟩) aH _,ac,ac,fun d hd=>?_⟩;unfold Ax;split
   .exact aH
   .have:=(h.row d ac).lt.2;omega
  .rw[if_neg e];obtain⟨g,g1,g2,g3,g4,g5⟩:=h.idv c ac;refine⟨g,g1,own g2 g4,g3,g4,fun d hd=>?_⟩;unfold Ax;split
   .have:=g2.lt.2;omega
   .exact g5 d ac
 .unfold Ax;split
  .exact aD
  .exact h.d2 c ac
 .unfold Ax at e;split at e <;> split at e
  .omega
  .have:=(h.row d ac).lt.2;omega
  .have:=(h.row c ac).lt.2;omega
  .exact h.d3 c d ac ac e
theorem NT.fin{w0 wr:World}{n tb rb gb:Nat}{rr:Nat->Nat}{V:Nat->Nat->Value}(hn:1<=n)(h:NT w0 wr n tb rb gb n rr V):∃mb,PG wr w0.heap.size n tb rb gb rr (fun _=> .slice none 0 0) V mb (Ma n):=by
 have aA:∀B,B∈gb :: (List.range n).map rr↔B=gb∨∃c,c<n/\rr c=B:=fun B=>by
  rw[List.mem_cons,List.mem_map];simp only[List.mem_range]
 refine⟨gb :: (List.range n).map rr,h.c0,h.c1,h.c2,fun hm=>?_,fun b hb=>?_,fun hm=>?_,h.row,fun b x hb hx=>?_,h.go,fun b hb=>⟨[],World.ownsRow_nil _ _ _ _,fun i f u h1=>by simp[Ma]at h1⟩,(aA gb).2 (.inl rfl),fun b hb=>(aA _).2 (.inr ⟨b,hb,rfl⟩),fun b B hb e=>(by cases e),fun b hb=>Ne.symm (h.d2 b hb).2.2,h.d3,fun b c B hb hc e=>(by cases e),fun B hB=>?_⟩
 .rcases (aA tb).1 hm with e|⟨c,hc,e⟩
  .exact h.d1.2.1 e
  .exact(h.d2 c hc).1 e
 .have:=h.ro.cell hb;rw[this,if_pos hb]
 .rcases (aA rb).1 hm with e|⟨c,hc,e⟩
  .exact h.d1.2.2 e
  .exact(h.d2 c hc).2.1 e
 .show J6 wr _ n (if b<n/\x=b then some ED else none) (V b x)
  by_cases e:x=b
  .subst e;rw[if_pos ⟨hb,rfl⟩];obtain⟨g,g1,g2,g3,g4,g5⟩:=h.idv x hb;rw[g1];exact Ca.of g2.li hn fun B e=>by
    injection e with e;have e:g=B:=e;subst e;intro hm;rcases (aA g).1 hm with e|⟨c,hc,e⟩
    .exact g3 e
    .exact g5 c hc e.symm
  .rw[if_neg (fun h=>e h.2)];exact h.nilv b x hb hx e
 .rcases (aA B).1 hB with e|⟨c,hc,e⟩
  .subst e;exact h.go.lt
  .subst e;exact(h.row c hc).lt
theorem NT.start{w a c:World}{n rb gb:Nat}(aB:Ex w a)(aA:Ex a c)(hr:AG c w.heap.size 37 rb n (fun _=> .slice none 0 0))(hg:AG c w.heap.size 37 gb n (fun _=> .slice none 0 0))(aC:rb≠gb):
  NT w (c.alloc (.cells #[.int .i64 n,.slice (some ⟨rb,0,none⟩) n n,.slice (some ⟨gb,0,none⟩) n n] 243)) n c.heap.size rb gb 0 (fun _=>0) (fun _ _=> .slice none 0 0):=by
 have h1:=hr.lt.2;have h2:=hg.lt.2;refine⟨ag,ag,ag,(hr.alloc _).congr fun j hj=>by rw[if_neg ac],fun c hc=>ac,fun c x hc=>ac,fun c hc=>ac,hg.alloc _,⟨ac,ac,aC⟩,fun c hc=>ac,fun c d hc=>ac,(aB.trans aA).alloc _⟩
theorem L9(w:World)(n:Nat)(aK:1<=n)(hn:n<=64):
  Calls Tryz.prog 173 #[.int .i64 n] w fun r w'=>∃tb rb gb rr mb,r= .returned (.pointer (some ⟨tb,0,none⟩))/\R5 w' w.heap.size n tb rb gb rr mb (Ma n)/\Ex w w':=by
 go_enter Tryz.func173,Tryz.ntmps173
 go_upto_region 1 with fail
 go_cut [3] from 5 to 12 (fun s3 wx=>∃tb rb gb,s3= .pointer (some ⟨tb,0,none⟩)/\Hia (NT w wx n tb rb gb 0 (fun _=>0) (fun _ _=> .slice none 0 0)))
 case first=>
  have H0:Hia True:=trivial
  go_region_held3 (fun w'=>True) (exact trivial)
   ((refine Ei 241 37 (.slice none 0 0) 24 Tryz.underlying241 Pn rfl n ac ai ?_;intro wm aA hx;(first|(clear H0;have O1:=Aa aA;have X1:=Aa hx;clear aA hx)|(have O2:=Aa aA;have X2:=Aa hx;clear aA hx));go_simp))
  all_goals
   have Y1:=((Ex.refl w).drew).trans X1.o;have L1:=O1.o.lt.2;have P1:=O1.o.ex X2.o;have P2:=O2.o.mono (Y1.size);go_wp2_with fail
   go_meet
   first
      | exact⟨_,_,_,rfl,Aa (NT.start Y1 X2.o P1 P2 (by show w.heap.size≠_;have:=Y1.size;have h9:w.heap.size<_:=L1;omega))⟩
      | exact⟨_,_,_,rfl,Aa (NT.start Y1 X2.o P2 P1 (by show _≠w.heap.size;have:=Y1.size;have h9:w.heap.size<_:=L1;omega))⟩
 case rest=>
  obtain⟨tb,rb,gb,rfl,aB⟩:=hcut;go_wp2_with fail
  go_loopw [13] (fun b' wr=>∃(b:Nat) (rr:Nat->Nat) (V:Nat->Nat->Value),b<=n/\b'= .int .i64 b/\Hia (NT w wr n tb rb gb b rr V)) (fun b' _=>n-(intOf b').toNat)
  case atStart=>exact⟨0,_,_,ac,rfl,aB⟩
  case round=>
   clear aB;obtain⟨b,rr,V,hb,rfl,aB⟩:=hrel;by_cases hbn:b<n
   .have c1:=aB.o.c1;have c3:wr.cell? ⟨rb,b,none⟩=some (.slice none 0 0):=by rw[aB.o.ro.cell hbn,if_neg ac]
    have f3:=aB.o.ro.frz b;have i1:(0:Int)<=(b:Int):=ac;have i2:(b:Int)<(n:Int):=ac;have E0:Ex wr wr.drew:=(Ex.refl wr).drew;go_upto_region 5 with fail
    go_cut [4] from 16 to 24 (fun s4 wx=>s4= .int .i64 b/\Hia (∃rx w2,wx=w2.setCell ⟨rb,b,none⟩ (.slice (some ⟨rx,0,none⟩) n n)/\Ex wr w2/\AG w2 wr.heap.size 22 rx n (fun _=> .slice none 0 0)))
    case first=>
     go_region_with (refine Ei 37 22 (.slice none 0 0) 24 Tryz.underlying37 Bz rfl n ac ai ?_;intro wm aA hx;have E1:=E0.trans hx;have aE:=Aa aA;have k1:=E1.cell c1;have k3:=E1.cell c3;have g3:=E1.frz c3 f3;clear aA;go_simp)
     all_goals
      go_wp2_with fail
      go_meet
      exact⟨rfl,Aa ⟨wr.heap.size,wm,rfl,E1,aE.o⟩⟩
    case rest=>
     obtain⟨rfl,aF⟩:=hcut;obtain⟨rx,w2,rfl,aC,hr⟩:=aF.o;have aL:=Aa aC;have HR:=Aa hr;have aM:=Aa aB.o;have hrx:=hr.lt;have aJ:rx≠rb:=by have:=aB.o.ro.lt.2;omega
     have c1:=aC.cell c1;have c6:(w2.setCell ⟨rb,b,none⟩ (.slice (some ⟨rx,0,none⟩) n n)).cell? ⟨tb,1,none⟩=some (.slice (some ⟨rb,0,none⟩) n n):=by
      rw[World.cell?_setCell_other _ _ _ _ (by intro e;exact aB.o.d1.1 (by injection e with e;exact e.symm))];exact c1
     have c7:(w2.setCell ⟨rb,b,none⟩ (.slice (some ⟨rx,0,none⟩) n n)).cell? ⟨rb,b,none⟩=some (.slice (some ⟨rx,0,none⟩) n n):=by
      rw[((aB.o.ro.ex aC).set b _).cell hbn,Ab]
     have aD:=hr.other (a:=⟨rb,b,none⟩) aJ (.slice (some ⟨rx,0,none⟩) n n);have c8:=aD.cell hbn;have f8:=aD.frz b;clear aF aC hr c1 c3 f3 E0;generalize hW3:w2.setCell ⟨rb,b,none⟩ (.slice (some ⟨rx,0,none⟩) n n)=w3 at *;have aG:=Aa hW3;have E0:Ex w3 w3.drew:=(Ex.refl w3).drew;have aN:=Aa (fun w4=>Mo w4 n ac);clear hW3;go_wp2_with fail
     go_region_with (go_at_call 102;(with_reducible refine(aN.o _).mono ?_);rintro e wx1⟨gi,rfl,aA,aI⟩;have E1:=E0.trans aI;have aE:=Aa aA;have k6:=E1.cell c6;have k7:=E1.cell c7;have k8:=E1.cell c8;have g8:=E1.frz c8 f8;clear aA)
     all_goals
      have aH:=Aa (aM.o.next (gi:=gi) (w4:=wx1) hbn aL.o HR.o (by rw[aG.o];exact E1) (by rw[aG.o];exact aE.o));clear c6 c7 c8 f8 k6 k7 k8 g8 aD;go_wp2_with fail
      go_roundw
      case rel=>first|exact⟨b+1,_,_,ac,by go_num,aH⟩|((repeat apply Exists.intro);exact⟨⟨b+1,_,_,ac,by go_num,aH⟩,rfl⟩)
      case measure=>simp[intOf];omega
   .obtain rfl:b=n:=by omega
    have aO:=Aa (aB.o.fin aK);have HX:=Aa aB.o.ex;clear aB;go_wp2_with fail
    go_ret;obtain⟨mb,hm⟩:=aO.o;exact⟨tb,rb,gb,rr,mb,rfl,⟨_,_,hm⟩,HX.o⟩
end
section
open Go.RowKit
theorem Ut{n:Nat}{R:Nat->Nat->Option (Nat->Nat)}{k c:Nat}{p r:Nat->Nat}(h:R c (Ct (R c) p c n)=some r):QS n R (k+1) c p=QS n R k (c+1) (An r p):=by
 show QS n R k (c+1) (An ((R c (Ct (R c) p c n)).getD ED) p)=_
 rw[h];rfl
theorem Oi{R:Nat->Option (Nat->Nat)}{p:Nat->Nat}{c n:Nat}(hc:c<n):∀x,x<=n->Ct R p c x<n
 | 0,_=>hc
 | x+1,h=>by
  unfold Ct;split
  .omega
  .exact Oi hc x (by omega)
theorem za8{P:Prop}(h:P:=by
 go_wp2_with fail
 go_quiet (fail)
 go_wp2_with fail
 go_roundw
 case rel=>exact⟨x+1,_,by omega,by go_num,by rw[aE.o],by rw[<-aJ.o,World.drewN_drewN]⟩
 case measure=>simp[intOf];omega):P:=h
theorem za4{P:Prop}(h:P:=by
 clear aA hR hV hlt;exact za8):P:=h
theorem Nw(w:World){base n tb rb gb:Nat}{rr:Nat->Nat}{gv:Nat->Value}{V:Nat->Nat->Value}{mb:List Nat}{t:Tw}(hm:PG w base n tb rb gb rr gv V mb t)(hG:Cv n t)(hn1:1<=n)(hn:n<=64)
  (u:Value) (f:Nat->Nat) (b:Nat) (hb:b<n) (hu:Ak w u (li n f)) (hP:Bj n f):
  Calls Tryz.prog 211 #[.pointer (some ⟨tb,0,none⟩),u,.int .i64 b] w fun r w'=>∃v,r= .returned v/\Ak w' v (li n (QS n t.R (n-(b+1)) (b+1) f))/\(v=u∨∃g cap,v= .slice (some ⟨g,0,none⟩) n cap/\w.heap.size<=g)/\Ex w w':=by
 have HM:=Aa hm;have HG:=Aa hG;have HU:=Aa hu;have HP:=Aa hP;obtain⟨ua,uc,rfl,_,_,_⟩:=En hu;obtain⟨E,hE⟩:=nA (QS n t.R (n-(b+1)) (b+1) f);have HE:=Aa hE;rw[hE];clear hm hG hu hP hE;go_enter Tryz.func211,Tryz.ntmps211
 go_wp2_with fail
 go_loopw [1,7] (fun p' c' wr=>∃(c:Nat) (h:Nat->Nat) (a:Option Addr) (cap:Nat),c<=n/\c'= .int .i64 c/\p'= .slice a n cap/\Hia (Ak wr (.slice a n cap) (li n h))/\Hia (Bj n h)/\Hia (QS n t.R (n-c) c h=E)/\Hia (Value.slice a n cap= .slice ua n uc∨∃g aI,Value.slice a n cap= .slice (some ⟨g,0,none⟩) n aI/\w.heap.size<=g)/\Hia (Ex w wr)) (fun _ c' _=>n-(intOf c').toNat)
 case atStart=>exact⟨b+1,f,ua,uc,ac,by go_num,rfl,HU,HP,HE,Aa (.inl rfl),Aa (Ex.refl _)⟩
 case round=>
  clear HU HP HE;obtain⟨c,h,a,cap,hc,rfl,rfl,hu,hp,he,aM,hx⟩:=hrel;have c0:=hx.o.cell HM.o.c0;have c1:=hx.o.cell HM.o.c1;by_cases hcn:c<n
  .obtain⟨pb,po,rfl,_,aL⟩:=Ey hu.o ac;have aS:=Aa aL;have d2:=hx.o.cell (HM.o.ro c hcn);have D2:=Aa d2;have C1:=Aa c1;have i1:(0:Int)<=(c:Int):=by omega
   have i2:(c:Int)<(n:Int):=ac;clear aL;go_wp2_with fail
   go_loopw [8,30] (fun m' x' w2=>∃(x q:Nat),x<=n/\x'= .int .i64 x/\m'= .int .i64 (Ct (t.R c) h c x:Int)/\w2=wr.drewN q) (fun _ x' _=>n-(intOf x').toNat)
   case atStart=>exact⟨0,0,ac,rfl,rfl,rfl⟩
   case round=>
    clear c0 c1 d2;obtain⟨x,q,aW,rfl,rfl,rfl⟩:=hrel;have aG:=Aa (Oi (R:=t.R c) (p:=h) hcn x aW);by_cases hxn:x<n
    .have EQ:=Aa ((Ex.refl wr).drewN q);have d3:=EQ.o.cell (hx.o.cell ((HM.o.row c hcn).cell hxn));have aA:=HM.o.rep c x hcn hxn;have aN:Ct (t.R c) h c (x+1)=if (t.R c x).isSome=true/\h x<h (Ct (t.R c) h c x) then x else Ct (t.R c) h c x:=rfl;have aC:=Aa aN;obtain⟨m,hm⟩:=nA (Ct (t.R c) h c x);rw[hm]at aG aC ⊢;have aF:m<n:=aG.o;have d4:=EQ.o.cell (aS.o x hxn);have d5:=EQ.o.cell (aS.o m aF);have i3:(0:Int)<=(x:Int):=by omega
     have i4:(x:Int)<(n:Int):=ac;have i5:(0:Int)<=(m:Int):=ac;have i6:(m:Int)<(n:Int):=ac;obtain⟨W,hW⟩:=nA (wr.drewN q);rw[hW]at d3 d4 d5 ⊢;have aJ:=Aa hW;clear aN hm hW
     cases hR:t.R c x with
     | none=>
      rw[hR]at aA aC;have aA:V c x= .slice none 0 0:=aA;rw[aA]at d3;have aE:=Aa (show Ct (t.R c) h c (x+1)=m from by rw[aC.o,if_neg ag]);clear aA hR;exact za8
     | some r=>
      rw[hR]at aA aC;have aA:Ca w mb n (V c x) r:=aA;obtain⟨vb,vo,vc,hV,_,_,_,_⟩:=aA.at_;rw[hV]at d3;by_cases hlt:h x<h m
      .have aE:=Aa (show Ct (t.R c) h c (x+1)=x from by rw[aC.o,if_pos ⟨rfl,hlt⟩]);have b1:decide ((h x:Int)<(h m:Int))=true:=by simp;omega
       have b2:decide (h x<h m)=true:=by simpa using hlt
       exact za4
      .have aE:=Aa (show Ct (t.R c) h c (x+1)=m from by rw[aC.o,if_neg (fun e=>hlt e.2)]);have b1:decide ((h x:Int)<(h m:Int))=false:=by simp;omega
       have b2:decide (h x<h m)=false:=by simpa using hlt
       exact za4
    .obtain rfl:x=n:=by omega
     have aD:=HG.o.one c hcn;obtain⟨aO,_,_⟩:=FE (R:=t.R c) (p:=h) (c:=c) (by rw[aD];rfl) x;obtain⟨r,hr⟩:=Option.isSome_iff_exists.1 aO;obtain⟨m,hm⟩:=nA (Ct (t.R c) h c x);have aV:=Aa (show QS x t.R (x-(c+1)) (c+1) (An r h)=E from by
      rw[<-he.o,show x-c=x-(c+1)+1 by omega,Ut hr])
     rw[hm]at hr aG ⊢;have aF:m<x:=aG.o;have aA:=HM.o.rep c m hcn aF;rw[hr]at aA;have aA:Ca w mb x (V c m) r:=aA;obtain⟨_,_,aH,_,_⟩:=HG.o.rep _ _ _ hr;obtain⟨vb,vo,vc,hV,_,_,_,_⟩:=aA.at_;have EQ:=Aa ((Ex.refl wr).drewN q);have d3:=EQ.o.cell (hx.o.cell ((HM.o.row c hcn).cell aF));have d4:=EQ.o.cell D2.o;have c1:=EQ.o.cell C1.o;rw[hV]at d3;have aR:=Aa (aA.ex (hx.o.trans EQ.o)).sl;rw[hV]at aR;have aY:=Aa (Fm (wr.drewN q) x r h _ _ aR.o (hu.o.ex EQ.o) ac aH.lt);have aQ:=Aa (aH.comp hp.o);have i5:(0:Int)<=(m:Int):=c9;have i6:(m:Int)<(x:Int):=ac;have aZ:=Aa (hx.o.trans EQ.o).size;clear aA hr hV aO aD aH he hm;go_wp2_with (go_at_call 108;refine aY.o.mono ?_;rintro e w3⟨g3,rfl,aB,aK⟩;have aT:=Aa aB.li;have aP:=Aa (hx.o.trans (EQ.o.trans aK));have aU:=Aa (Nat.le_trans aZ.o aB.lt.1);clear aB aK)
     go_roundw
     case rel=>first|exact⟨c+1,An r h,some ⟨g3,0,none⟩,x,ac,by go_num,rfl,aT,aQ,aV,Aa (.inr ⟨g3,x,rfl,aU.o⟩),aP⟩|((repeat apply Exists.intro);exact⟨⟨c+1,An r h,some ⟨g3,0,none⟩,x,ac,by go_num,rfl,aT,aQ,aV,Aa (.inr ⟨g3,x,rfl,aU.o⟩),aP⟩,rfl⟩)
     case measure=>simp[intOf];omega
  .obtain rfl:c=n:=by omega
   have bB:=Aa (show h=E from by rw[<-he.o,Nat.sub_self];rfl);have aX:=Aa hu.o;have bA:=Aa aM.o;clear he hu aM;go_wp2_with fail
   go_ret;refine⟨.slice a c cap,rfl,by rw[<-bB.o];exact aX.o,bA.o,hx.o⟩
end
section
open Go.RowKit
theorem RL:(Tryz.prog.info? 90).map (fun i=>(i.zero,i.size,i.bytes))=some (some (.agg #[.int .i64 0,.slice none 0 0,.slice none 0 0]),3,56):=ah
def Pi:List Lv->List (Value × Value)->List Value
 | l :: L,o :: os=> .int .i64 l.pt :: o.1 :: o.2 :: Pi L os
 | _,_=> []
theorem Me:∀(L:List Lv) (os:List (Value × Value)),os.length=L.length->(Pi L os).length=L.length*3
 | [], [],_=>rfl
 | l :: L,o :: os,h=>by
  have:=Me L os ay;simp only[Pi,List.length_cons];omega
 | [],o :: os,h=>by simp at h
 | l :: L, [],h=>by simp at h
theorem Mf:∀(L:List Lv) (os:List (Value × Value)) (i:Nat) (l:Lv) (o:Value × Value),L[i]?=some l->os[i]?=some o->(Pi L os)[3*i]?=some (.int .i64 l.pt)/\(Pi L os)[3*i+1]?=some o.1/\(Pi L os)[3*i+2]?=some o.2
 | l' :: L,o' :: os,0,l,o,h,k=>by
  simp at h k;subst h k;exact⟨rfl,rfl,rfl⟩
 | l' :: L,o' :: os,i+1,l,o,h,k=>by
  have:=Mf L os i l o ay (by simpa using k);rw[show 3*(i+1)=3*i+3 by omega,show 3*i+3+1=3*i+1+3 by omega,show 3*i+3+2=3*i+2+3 by omega];simpa[Pi]using this
 | [],os,i,l,o,h,k=>by simp at h
 | l' :: L, [],i,l,o,h,k=>by simp at k
theorem Qo:∀(L:List Lv) (os:List (Value × Value)) (l:Lv) (o:Value × Value),os.length=L.length->Pi (L ++ [l]) (os ++ [o])=Pi L os ++ [.int .i64 l.pt,o.1,o.2]
 | [], [],l,o,_=>rfl
 | l' :: L,o' :: os,l,o,h=>by
  have:=Qo L os l o ay;simp only[List.cons_append,Pi,this]
 | [],o' :: os,l,o,h=>by simp at h
 | l' :: L, [],l,o,h=>by simp at h
def Eh(w:World)(v:Value)(L:List Lv):Prop:=∃os:List (Value × Value),os.length=L.length/\Sl w v L.length 3 (Pi L os)/\∀(i:Nat) (l:Lv) (o:Value × Value),L[i]?=some l->os[i]?=some o->Ak w o.1 l.orb/\B6 w o.2 l.reps
theorem zbw{P:Prop}(h:P:=by
 obtain⟨os,h1,h2,h3⟩:=h;exact⟨os,h1,h2.ex hx,fun i l o a b=>⟨(h3 i l o a b).1.ex hx,(h3 i l o a b).2.ex hx⟩⟩):P:=h
theorem Eh.ex{w w':World}{v:Value}{L:List Lv}(h:Eh w v L)(hx:Ex w w'):Eh w' v L:=by
 exact zbw
theorem Eh.nil(w:World):Eh w (.slice none 0 0) []:=⟨[],rfl,Sl.nil w 3,fun i l o h=>by simp at h⟩
theorem Eh.open{w:World}{v:Value}{L:List Lv}(h:Eh w v L):∃a cap,v= .slice a L.length cap/\L.length<=cap/\cap<=maxLen/\
  (0<L.length->∃b o,a=some ⟨b,o,none⟩/\∀(i:Nat) (l:Lv),L[i]?=some l->∃u r,w.cell? ⟨b,o+3*i,none⟩=some (.int .i64 l.pt)/\w.cell? ⟨b,o+(3*i+1),none⟩=some u/\w.cell? ⟨b,o+(3*i+2),none⟩=some r/\Ak w u l.orb/\B6 w r l.reps):=by
 obtain⟨os,h1,⟨h2,a,cap,h3,h4,h5,h6⟩,h7⟩:=h;refine⟨a,cap,h3,h4,h5,fun hn=>?_⟩;obtain⟨b,o,h8,h9⟩:=h6 hn;refine⟨b,o,h8,fun i l hl=>?_⟩;have hi:=(List.getElem?_eq_some_iff.1 hl).1;have ho:os[i]?=some (os[i]'ac):=List.getElem?_eq_getElem _;obtain⟨g1,g2,g3⟩:=Mf L os i l _ hl ho;obtain⟨k1,k2⟩:=h7 i l _ hl ho;exact⟨_,_,h9 _ _ g1,h9 _ _ g2,h9 _ _ g3,k1,k2⟩
theorem Mx.cons{mb aA:List Nat}{w w':World}(h:Mx mb aA w w')(q:Nat):Mx (q :: mb) (q :: aA) w w':=
 ⟨h.os,h.tape,h.output,h.size,fun i hi hn=>h.block i hi (fun hm=>hn (List.mem_cons_of_mem _ hm)),fun B hB=>by
  rcases List.mem_cons.1 hB with e|e
  .exact .inl (by rw[e];exact List.mem_cons_self ..)
  .rcases h.mb B e with k|k
   .exact .inl (List.mem_cons_of_mem _ k)
   .exact .inr k⟩
structure SI(w:World)(mb:List Nat)(v:Value)(l:List Int):Prop where
 sl:Ak w v l
 off:0<l.length->∀B,v.ownBlock=some B->B ∉ mb/\B<w.heap.size
theorem Sl.mx{mb aA:List Nat}{w w':World}(hx:Mx mb aA w w'){v:Value}{n size:Nat}{xs:List Value}(h:Sl w v n size xs)(ho:0<n->∀B,v.ownBlock=some B->B ∉ mb):Sl w' v n size xs:=by
 obtain⟨h1,a,cap,rfl,h3,h4,h5⟩:=h;refine⟨h1,a,cap,rfl,h3,h4,fun hn=>?_⟩;obtain⟨b,o,rfl,h6⟩:=h5 hn;exact⟨b,o,rfl,fun j u hu=>hx.cell (h6 j u hu) (ho hn b rfl)⟩
theorem SI.mx{mb aA:List Nat}{w w':World}{v:Value}{l:List Int}(h:SI w mb v l)(hx:Mx mb aA w w'):SI w' aA v l:=
 ⟨Sl.mx hx h.sl fun hn B e=>(h.off hn B e).1,fun hn B e=>by
  obtain⟨h1,h2⟩:=h.off hn B e;exact⟨fun hb=>by
   rcases hx.mb B hb with h3|h3
   .exact h1 h3
   .omega,Nat.lt_of_lt_of_le h2 hx.size⟩⟩
structure SM(w:World)(mb:List Nat)(v:Value)(rows:List (List Int))(vals:List Value):Prop where
 sl:Sl w v rows.length 1 vals
 off:0<rows.length->∀B,v.ownBlock=some B->B ∉ mb/\B<w.heap.size
 row:∀(i:Nat) (r:List Int) (u:Value),rows[i]?=some r->vals[i]?=some u->SI w mb u r
theorem SM.mx{mb aA:List Nat}{w w':World}{v:Value}{rows:List (List Int)}{vals:List Value}(h:SM w mb v rows vals)(hx:Mx mb aA w w'):SM w' aA v rows vals:=
 ⟨Sl.mx hx h.sl fun hn B e=>(h.off hn B e).1,fun hn B e=>by
  obtain⟨h1,h2⟩:=h.off hn B e;exact⟨fun hb=>by
   rcases hx.mb B hb with h3|h3
   .exact h1 h3
   .omega,Nat.lt_of_lt_of_le h2 hx.size⟩,fun i r u a b=>(h.row i r u a b).mx hx⟩
theorem SM.msl{w:World}{mb:List Nat}{v:Value}{rows:List (List Int)}{vals:List Value}(h:SM w mb v rows vals):B6 w v rows:=⟨vals,h.sl,fun i r u a b=>(h.row i r u a b).sl⟩
structure UJ(w:World)(base q:Nat)(mb:List Nat)(lv:Value)(L:List Lv)(os:List (Value × Value)):Prop where
 own:w.ownsRow base 90 3 lv L.length (Pi L os)
 len:os.length=L.length
 lev:∀(i:Nat) (l:Lv) (o:Value × Value),L[i]?=some l->os[i]?=some o->SI w (q :: mb) o.1 l.orb/\∃vals,SM w (q :: mb) o.2 l.reps vals
 blk:∀B,lv.ownBlock=some B->B∈mb
theorem UJ.ex{w w':World}{base q:Nat}{mb:List Nat}{lv:Value}{L:List Lv}{os:List (Value × Value)}(h:UJ w base q mb lv L os)(hx:Ex w w'):UJ w' base q mb lv L os:=
 ⟨Ai h.own hx,h.len,fun i l o a b=>⟨(h.lev i l o a b).1.mx (Mx.ofEx hx (q :: mb)),by obtain⟨vals,h2⟩:=(h.lev i l o a b).2;exact⟨vals,h2.mx (Mx.ofEx hx (q :: mb))⟩⟩,h.blk⟩
theorem UJ.nil(w:World)(base q:Nat)(mb:List Nat):UJ w base q mb (.slice none 0 0) [] []:=
 ⟨World.ownsRow_nil _ _ _ _,rfl,fun i l o h=>by simp at h,fun B h=>by cases h⟩
theorem UJ.mx{w w':World}{base q:Nat}{mb aA:List Nat}{lv:Value}{L:List Lv}{os:List (Value × Value)}(h:UJ w base q mb lv L os)(hx:Mx mb aA w w')(ho:w'.ownsRow base 90 3 lv L.length (Pi L os))(hb:∀B,lv.ownBlock=some B->B∈aA):UJ w' base q aA lv L os:=
 ⟨ho,h.len,fun i l o a b=>⟨(h.lev i l o a b).1.mx (hx.cons q),by obtain⟨vals,h2⟩:=(h.lev i l o a b).2;exact⟨vals,h2.mx (hx.cons q)⟩⟩,hb⟩
end
end Go.Proofs.YtehieobniamagaaGreat
