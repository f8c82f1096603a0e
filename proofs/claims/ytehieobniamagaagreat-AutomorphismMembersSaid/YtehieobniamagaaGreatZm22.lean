/- Walk of perm.newTower; insert at all measures. -/
import Derived.Test.YtehieobniamagaaGreatZm21
namespace Go.Proofs.YtehieobniamagaaGreat
open Go.RowKit
set_option linter.all false
set_option maxRecDepth 100000
set_option maxHeartbeats 4000000
theorem Ng{base n tb rb gb:Nat}{rr:Nat->Nat}(aA:1<=n)(hn:n<=64):∀m,Tq base n tb rb gb rr m
 | 0=>fun w mb t q u b aB hb=>by
  have h1:1*(n+1)<=(n-b)*(n+1):=Nat.mul_le_mul_right _ ac;unfold Sy at aB;omega
 | m+1=>UP aA hn m (Ng aA hn m) (KT aA hn m (Ng aA hn m))
theorem YS{base n tb rb gb:Nat}{rr:Nat->Nat}(aA:1<=n)(hn:n<=64)(m:Nat):Xk base n tb rb gb rr m:=KT aA hn m (Ng aA hn m)
theorem Rq:(Tryz.prog.info? 37).map (fun i=>(i.zero,i.size,i.bytes))=some (some (.slice none 0 0),1,24):=ah
structure NT(w0 wr:World)(n tb rb gb b:Nat)(rr:Nat->Nat)(V:Nat->Nat->Value):Prop where
 c0:wr.cell? ⟨tb,0,none⟩=some (.int .i64 n)
 c1:wr.cell? ⟨tb,1,none⟩=some (.slice (some ⟨rb,0,none⟩) n n)
 c2:wr.cell? ⟨tb,2,none⟩=some (.slice (some ⟨gb,0,none⟩) n n)
 ro:AE wr w0.heap.size 37 rb n (fun c=>if c<b then .slice (some ⟨rr c,0,none⟩) n n else .slice none 0 0)
 row:∀c,c<b->AE wr w0.heap.size 22 (rr c) n (V c)
 nilv:∀c x,c<b->x<n->x≠c->V c x= .slice none 0 0
 idv:∀c,c<b->∃g,V c c= .slice (some ⟨g,0,none⟩) n n/\AE wr w0.heap.size 3 g n (iv fun i=>(Ej i:Int))/\g≠gb/\g≠rb/\∀d,d<b->g≠rr d
 go:AE wr w0.heap.size 37 gb n (fun _=> .slice none 0 0)
 d1:tb≠rb/\tb≠gb/\rb≠gb
 d2:∀c,c<b->rr c≠tb/\rr c≠rb/\rr c≠gb
 d3:∀c d,c<b->d<b->rr c=rr d->c=d
 ex:Ex w0 wr
theorem NT.next{w0 wr w2 w4:World}{n tb rb gb b rx gi:Nat}{rr:Nat->Nat}{V:Nat->Nat->Value}(h:NT w0 wr n tb rb gb b rr V)(hb:b<n)
  (aB:Ex wr w2) (hr:AE w2 wr.heap.size 22 rx n (fun _=> .slice none 0 0))
  (aA:Ex (w2.setCell ⟨rb,b,none⟩ (.slice (some ⟨rx,0,none⟩) n n)) w4) (hi:AE w4 (w2.setCell ⟨rb,b,none⟩ (.slice (some ⟨rx,0,none⟩) n n)).heap.size 3 gi n (iv fun i=>(Ej i:Int))):
  NT w0 (w4.setCell ⟨rx,b,none⟩ (.slice (some ⟨gi,0,none⟩) n n)) n tb rb gb (b+1) (Ay rr b rx) (fun c=>if c=b then Ay (fun _=> .slice none 0 0) b (.slice (some ⟨gi,0,none⟩) n n) else V c):=by
 have aG:(w2.setCell ⟨rb,b,none⟩ (.slice (some ⟨rx,0,none⟩) n n)).heap.size=w2.heap.size:=b9;have hrl:=hr.lt;have aL:=hi.lt;rw[aG]at aL;have hz2:=aB.size;have aJ:=h.ex.size;have aI:∀ {a:Addr} {u:Value},wr.cell? a=some u->a.block<wr.heap.size:=fun k=>World.block_lt_of_cell? _ _ k;have aK:=aI h.c0;have hrb:=h.ro.lt.2;have hgb:=h.go.lt.2;have aD:rx≠tb/\rx≠rb/\rx≠gb:=by dsimp only at aK;omega
 have aC:∀ {a:Addr} {u:Value},wr.cell? a=some u->a.block≠rb->(w4.setCell ⟨rx,b,none⟩ (.slice (some ⟨gi,0,none⟩) n n)).cell? a=some u:=fun {a u} k k2=>by
  have k3:=aI k;rw[World.cell?_setCell_other _ _ _ _ (by
    intro e;have:rx=a.block:=by rw[<-e]
    omega)]
  refine aA.cell ?_;rw[World.cell?_setCell_other _ _ _ _ (by intro e;exact k2 (by rw[<-e]))];exact aB.cell k
 have own:∀ {e:TypeId} {g m:Nat} {c:Nat->Value},AE wr w0.heap.size e g m c->g≠rb->AE (w4.setCell ⟨rx,b,none⟩ (.slice (some ⟨gi,0,none⟩) n n)) w0.heap.size e g m c:=fun {e g m c} k k2=>by
  have k3:=k.lt.2;exact(((k.ex aB).other (a:=⟨rb,b,none⟩) k2 _).ex aA).other (a:=⟨rx,b,none⟩) (by show g≠rx;omega) _
 have aE:AE w4 w0.heap.size 22 rx n (fun _=> .slice none 0 0):=((hr.other (a:=⟨rb,b,none⟩) aD.2.1 _).ex aA).mono aJ;have aM:Ex w0 w4:=((h.ex.trans aB).setCell (p:=⟨rb,b,none⟩) h.ro.lt.1 _).trans aA;refine⟨aC h.c0 h.d1.1,aC h.c1 h.d1.1,aC h.c2 h.d1.1,?_,fun c hc=>?_,fun c x hc hx aF=>?_,fun c hc=>?_,own h.go (Ne.symm h.d1.2.2),h.d1,fun c hc=>?_,fun c d hc hd e=>?_,aE.exSet (Nat.le_refl _) aM b _⟩
 .have k:=(((h.ro.ex aB).set b (.slice (some ⟨rx,0,none⟩) n n)).ex aA).other (a:=⟨rx,b,none⟩) (by show rb≠rx;exact Ne.symm aD.2.1) (.slice (some ⟨gi,0,none⟩) n n);refine k.congr fun j hj=>?_;unfold Ay;dsimp only;by_cases e:j=b
  .subst e;rw[if_pos rfl,if_pos ac,if_pos rfl]
  .rw[if_neg e,if_neg e];by_cases e2:j<b
   .rw[if_pos e2,if_pos ac]
   .rw[if_neg e2,if_neg ac]
 .by_cases e:c=b
  .subst e;rw[Ab,if_pos rfl];exact aE.set c _
  .rw[Ad _ _ e,if_neg e];exact own (h.row c ac) (h.d2 c ac).2.1
 .show(if c=b then Ay (fun _=> .slice none 0 0) b (.slice (some ⟨gi,0,none⟩) n n) else V c) x=_
  by_cases e:c=b
  .subst e;rw[if_pos rfl,Ad _ _ aF]
  .rw[if_neg e];exact h.nilv c x ac hx aF
 .show ∃g,(if c=b then Ay (fun _=> .slice none 0 0) b (.slice (some ⟨gi,0,none⟩) n n) else V c) c=_/\_
  have aH:gi≠rx:=ac;by_cases e:c=b
  .subst e;rw[if_pos rfl,Ab];refine⟨gi,rfl,(hi.mono (by rw[aG];omega)).other (a:=⟨rx,c,none⟩) aH _,ac,ac,fun d hd=>?_⟩;unfold Ay;split
   .exact aH
   .have:=(h.row d ac).lt.2;omega
  .rw[if_neg e];obtain⟨g,g1,g2,g3,g4,g5⟩:=h.idv c ac;refine⟨g,g1,own g2 g4,g3,g4,fun d hd=>?_⟩;unfold Ay;split
   .have:=g2.lt.2;omega
   .exact g5 d ac
 .unfold Ay;split
  .exact aD
  .exact h.d2 c ac
 .unfold Ay at e;split at e <;> split at e
  .omega
  .have:=(h.row d ac).lt.2;omega
  .have:=(h.row c ac).lt.2;omega
  .exact h.d3 c d ac ac e
theorem NT.fin{w0 wr:World}{n tb rb gb:Nat}{rr:Nat->Nat}{V:Nat->Nat->Value}(hn:1<=n)(h:NT w0 wr n tb rb gb n rr V):∃mb,RO wr w0.heap.size n tb rb gb rr (fun _=> .slice none 0 0) V mb (ND n):=by
 have aA:∀B,B∈gb :: (List.range n).map rr↔B=gb∨∃c,c<n/\rr c=B:=fun B=>by
  rw[List.mem_cons,List.mem_map];simp only[List.mem_range]
 refine⟨gb :: (List.range n).map rr,h.c0,h.c1,h.c2,fun hm=>?_,fun b hb=>?_,fun hm=>?_,h.row,fun b x hb hx=>?_,h.go,fun b hb=>⟨[],World.ownsRow_nil _ _ _ _,fun i f u h1=>by simp[ND]at h1⟩,(aA gb).2 (.inl rfl),fun b hb=>(aA _).2 (.inr ⟨b,hb,rfl⟩),fun b B hb e=>(by cases e),fun b hb=>Ne.symm (h.d2 b hb).2.2,h.d3,fun b c B hb hc e=>(by cases e),fun B hB=>?_⟩
 .rcases (aA tb).1 hm with e|⟨c,hc,e⟩
  .exact h.d1.2.1 e
  .exact(h.d2 c hc).1 e
 .have:=h.ro.cell hb;rw[this,if_pos hb]
 .rcases (aA rb).1 hm with e|⟨c,hc,e⟩
  .exact h.d1.2.2 e
  .exact(h.d2 c hc).2.1 e
 .show Lq wr _ n (if b<n/\x=b then some Ej else none) (V b x)
  by_cases e:x=b
  .subst e;rw[if_pos ⟨hb,rfl⟩];obtain⟨g,g1,g2,g3,g4,g5⟩:=h.idv x hb;rw[g1];exact Cw.of g2.li hn fun B e=>by
    injection e with e;have e:g=B:=e;subst e;intro hm;rcases (aA g).1 hm with e|⟨c,hc,e⟩
    .exact g3 e
    .exact g5 c hc e.symm
  .rw[if_neg (fun h=>e h.2)];exact h.nilv b x hb hx e
 .rcases (aA B).1 hB with e|⟨c,hc,e⟩
  .subst e;exact h.go.lt
  .subst e;exact(h.row c hc).lt
theorem NT.start{w a c:World}{n rb gb:Nat}(aB:Ex w a)(aA:Ex a c)(hr:AE c w.heap.size 37 rb n (fun _=> .slice none 0 0))(hg:AE c w.heap.size 37 gb n (fun _=> .slice none 0 0))(aC:rb≠gb):
  NT w (c.alloc (.cells #[.int .i64 n,.slice (some ⟨rb,0,none⟩) n n,.slice (some ⟨gb,0,none⟩) n n] 243)) n c.heap.size rb gb 0 (fun _=>0) (fun _ _=> .slice none 0 0):=by
 have h1:=hr.lt.2;have h2:=hg.lt.2;refine⟨ag,ag,ag,(hr.alloc _).congr fun j hj=>by rw[if_neg ac],fun c hc=>ac,fun c x hc=>ac,fun c hc=>ac,hg.alloc _,⟨ac,ac,aC⟩,fun c hc=>ac,fun c d hc=>ac,(aB.trans aA).alloc _⟩
theorem NC(w:World)(n:Nat)(aK:1<=n)(hn:n<=64):
  Calls Tryz.prog 173 #[.int .i64 n] w fun r w'=>∃tb rb gb rr mb,r= .returned (.pointer (some ⟨tb,0,none⟩))/\UB w' w.heap.size n tb rb gb rr mb (ND n)/\Ex w w':=by
 go_enter Tryz.func173,Tryz.ntmps173
 go_upto_region 1 with fail
 go_cut [3] from 5 to 12 (fun s3 wx=>∃tb rb gb,s3= .pointer (some ⟨tb,0,none⟩)/\Hia (NT w wx n tb rb gb 0 (fun _=>0) (fun _ _=> .slice none 0 0)))
 case first=>
  have H0:Hia True:=trivial
  go_region_held3 (fun w'=>True) (exact trivial)
   ((refine E3 241 37 (.slice none 0 0) 24 Tryz.underlying241 Rq rfl n ac ai ?_;intro wm aA hx;(first|(clear H0;have O1:=Aa aA;have X1:=Aa hx;clear aA hx)|(have O2:=Aa aA;have X2:=Aa hx;clear aA hx));go_simp))
  all_goals
   have Y1:=((Ex.refl w).drew).trans X1.o;have L1:=O1.o.lt.2;have P1:=O1.o.ex X2.o;have P2:=O2.o.mono (Y1.size);go_wp2_with fail
   go_meet
   first
      | exact⟨_,_,_,rfl,Aa (NT.start Y1 X2.o P1 P2 (by show w.heap.size≠_;have:=Y1.size;have h9:w.heap.size<_:=L1;omega))⟩
      | exact⟨_,_,_,rfl,Aa (NT.start Y1 X2.o P2 P1 (by show _≠w.heap.size;have:=Y1.size;have h9:w.heap.size<_:=L1;omega))⟩
 case rest=>
  obtain⟨tb,rb,gb,rfl,aB⟩:=hcut;go_wp2_with fail
  go_loopw [13] (fun b' wr=>∃(b:Nat) (rr:Nat->Nat) (V:Nat->Nat->Value),b<=n/\b'= .int .i64 b/\Hia (NT w wr n tb rb gb b rr V)) (fun b' _=>n-(intOf b').toNat)
  case atStart=>exact⟨0,_,_,ac,rfl,aB⟩
  case round=>
   clear aB;obtain⟨b,rr,V,hb,rfl,aB⟩:=hrel;by_cases hbn:b<n
   .have c1:=aB.o.c1;have c3:wr.cell? ⟨rb,b,none⟩=some (.slice none 0 0):=by rw[aB.o.ro.cell hbn,if_neg ac]
    have f3:=aB.o.ro.frz b;have i1:(0:Int)<=(b:Int):=ac;have i2:(b:Int)<(n:Int):=ac;have E0:Ex wr wr.drew:=(Ex.refl wr).drew;go_upto_region 5 with fail
    go_cut [4] from 16 to 24 (fun s4 wx=>s4= .int .i64 b/\Hia (∃rx w2,wx=w2.setCell ⟨rb,b,none⟩ (.slice (some ⟨rx,0,none⟩) n n)/\Ex wr w2/\AE w2 wr.heap.size 22 rx n (fun _=> .slice none 0 0)))
    case first=>
     go_region_with (refine E3 37 22 (.slice none 0 0) 24 Tryz.underlying37 BR rfl n ac ai ?_;intro wm aA hx;have E1:=E0.trans hx;have aE:=Aa aA;have k1:=E1.cell c1;have k3:=E1.cell c3;have g3:=E1.frz c3 f3;clear aA;go_simp)
     all_goals
      go_wp2_with fail
      go_meet
      exact⟨rfl,Aa ⟨wr.heap.size,wm,rfl,E1,aE.o⟩⟩
    case rest=>
     obtain⟨rfl,aF⟩:=hcut;obtain⟨rx,w2,rfl,aC,hr⟩:=aF.o;have aL:=Aa aC;have HR:=Aa hr;have aM:=Aa aB.o;have hrx:=hr.lt;have aJ:rx≠rb:=by have:=aB.o.ro.lt.2;omega
     have c1:=aC.cell c1;have c6:(w2.setCell ⟨rb,b,none⟩ (.slice (some ⟨rx,0,none⟩) n n)).cell? ⟨tb,1,none⟩=some (.slice (some ⟨rb,0,none⟩) n n):=by
      rw[World.cell?_setCell_other _ _ _ _ (by intro e;exact aB.o.d1.1 (by injection e with e;exact e.symm))];exact c1
     have c7:(w2.setCell ⟨rb,b,none⟩ (.slice (some ⟨rx,0,none⟩) n n)).cell? ⟨rb,b,none⟩=some (.slice (some ⟨rx,0,none⟩) n n):=by
      rw[((aB.o.ro.ex aC).set b _).cell hbn,Ab]
     have aD:=hr.other (a:=⟨rb,b,none⟩) aJ (.slice (some ⟨rx,0,none⟩) n n);have c8:=aD.cell hbn;have f8:=aD.frz b;clear aF aC hr c1 c3 f3 E0;generalize hW3:w2.setCell ⟨rb,b,none⟩ (.slice (some ⟨rx,0,none⟩) n n)=w3 at *;have aG:=Aa hW3;have E0:Ex w3 w3.drew:=(Ex.refl w3).drew;have aN:=Aa (fun w4=>Il w4 n ac);clear hW3;go_wp2_with fail
     go_region_with (go_at_call 102;(with_reducible refine(aN.o _).mono ?_);rintro e wx1⟨gi,rfl,aA,aI⟩;have E1:=E0.trans aI;have aE:=Aa aA;have k6:=E1.cell c6;have k7:=E1.cell c7;have k8:=E1.cell c8;have g8:=E1.frz c8 f8;clear aA)
     all_goals
      have aH:=Aa (aM.o.next (gi:=gi) (w4:=wx1) hbn aL.o HR.o (by rw[aG.o];exact E1) (by rw[aG.o];exact aE.o));clear c6 c7 c8 f8 k6 k7 k8 g8 aD;go_wp2_with fail
      go_roundw
      case rel=>first|exact⟨b+1,_,_,ac,by go_num,aH⟩|((repeat apply Exists.intro);exact⟨⟨b+1,_,_,ac,by go_num,aH⟩,rfl⟩)
      case measure=>simp[intOf];omega
   .obtain rfl:b=n:=by omega
    have aO:=Aa (aB.o.fin aK);have HX:=Aa aB.o.ex;clear aB;go_wp2_with fail
    go_ret;obtain⟨mb,hm⟩:=aO.o;exact⟨tb,rb,gb,rr,mb,rfl,⟨_,_,hm⟩,HX.o⟩
theorem WX{n:Nat}{R:Nat->Nat->Option (Nat->Nat)}{k c:Nat}{p r:Nat->Nat}(h:R c (CQ (R c) p c n)=some r):Th n R (k+1) c p=Th n R k (c+1) (Aq r p):=by
 show Th n R k (c+1) (Aq ((R c (CQ (R c) p c n)).getD Ej) p)=_
 rw[h];rfl
theorem Qi{R:Nat->Option (Nat->Nat)}{p:Nat->Nat}{c n:Nat}(hc:c<n):∀x,x<=n->CQ R p c x<n
 | 0,_=>hc
 | x+1,h=>by
  unfold CQ;split
  .omega
  .exact Qi hc x (by omega)
theorem zbt{P:Prop}(h:P:=by
 go_wp2_with fail
 go_quiet (fail)
 go_wp2_with fail
 go_roundw
 case rel=>exact⟨x+1,_,by omega,by go_num,by rw[aE.o],by rw[<-aJ.o,World.drewN_drewN]⟩
 case measure=>simp[intOf];omega):P:=h
theorem zbq{P:Prop}(h:P:=by
 clear aA hR hV hlt;exact zbt):P:=h
theorem Pi(w:World){base n tb rb gb:Nat}{rr:Nat->Nat}{gv:Nat->Value}{V:Nat->Nat->Value}{mb:List Nat}{t:Tw}(hm:RO w base n tb rb gb rr gv V mb t)(hG:CU n t)(hn1:1<=n)(hn:n<=64)
  (u:Value) (f:Nat->Nat) (b:Nat) (hb:b<n) (hu:Aj w u (li n f)) (hP:Bd n f):
  Calls Tryz.prog 211 #[.pointer (some ⟨tb,0,none⟩),u,.int .i64 b] w fun r w'=>∃v,r= .returned v/\Aj w' v (li n (Th n t.R (n-(b+1)) (b+1) f))/\(v=u∨∃g cap,v= .slice (some ⟨g,0,none⟩) n cap/\w.heap.size<=g)/\Ex w w':=by
 obtain⟨HM,HG,HU,HP⟩:=Eq hm hG hu hP;obtain⟨ua,uc,rfl,_,_,_⟩:=DQ hu;obtain⟨E,hE⟩:=nA (Th n t.R (n-(b+1)) (b+1) f);have HE:=Aa hE;rw[hE];clear hm hG hu hP hE;go_enter Tryz.func211,Tryz.ntmps211
 go_wp2_with fail
 go_loopw [1,7] (fun p' c' wr=>∃(c:Nat) (h:Nat->Nat) (a:Option Addr) (cap:Nat),c<=n/\c'= .int .i64 c/\p'= .slice a n cap/\Hia (Aj wr (.slice a n cap) (li n h))/\Hia (Bd n h)/\Hia (Th n t.R (n-c) c h=E)/\Hia (Value.slice a n cap= .slice ua n uc∨∃g aI,Value.slice a n cap= .slice (some ⟨g,0,none⟩) n aI/\w.heap.size<=g)/\Hia (Ex w wr)) (fun _ c' _=>n-(intOf c').toNat)
 case atStart=>exact⟨b+1,f,ua,uc,ac,by go_num,rfl,HU,HP,HE,Aa (.inl rfl),Aa (Ex.refl _)⟩
 case round=>
  clear HU HP HE;obtain⟨c,h,a,cap,hc,rfl,rfl,hu,hp,he,aM,hx⟩:=hrel;have c0:=hx.o.cell HM.o.c0;have c1:=hx.o.cell HM.o.c1;by_cases hcn:c<n
  .obtain⟨pb,po,rfl,_,aL⟩:=Eo hu.o ac;have aS:=Aa aL;have d2:=hx.o.cell (HM.o.ro c hcn);have D2:=Aa d2;have C1:=Aa c1;have i1:(0:Int)<=(c:Int):=by omega
   have i2:(c:Int)<(n:Int):=ac;clear aL;go_wp2_with fail
   go_loopw [8,30] (fun m' x' w2=>∃(x q:Nat),x<=n/\x'= .int .i64 x/\m'= .int .i64 (CQ (t.R c) h c x:Int)/\w2=wr.drewN q) (fun _ x' _=>n-(intOf x').toNat)
   case atStart=>exact⟨0,0,ac,rfl,rfl,rfl⟩
   case round=>
    clear c0 c1 d2;obtain⟨x,q,aW,rfl,rfl,rfl⟩:=hrel;have aG:=Aa (Qi (R:=t.R c) (p:=h) hcn x aW);by_cases hxn:x<n
    .have EQ:=Aa ((Ex.refl wr).drewN q);have d3:=EQ.o.cell (hx.o.cell ((HM.o.row c hcn).cell hxn));have aA:=HM.o.rep c x hcn hxn;have aN:CQ (t.R c) h c (x+1)=if (t.R c x).isSome=true/\h x<h (CQ (t.R c) h c x) then x else CQ (t.R c) h c x:=rfl;have aC:=Aa aN;obtain⟨m,hm⟩:=nA (CQ (t.R c) h c x);rw[hm]at aG aC ⊢;have aF:m<n:=aG.o;have d4:=EQ.o.cell (aS.o x hxn);have d5:=EQ.o.cell (aS.o m aF);have i3:(0:Int)<=(x:Int):=by omega
     have i4:(x:Int)<(n:Int):=ac;have i5:(0:Int)<=(m:Int):=ac;have i6:(m:Int)<(n:Int):=ac;obtain⟨W,hW⟩:=nA (wr.drewN q);rw[hW]at d3 d4 d5 ⊢;have aJ:=Aa hW;clear aN hm hW
     cases hR:t.R c x with
     | none=>
      rw[hR]at aA aC;have aA:V c x= .slice none 0 0:=aA;rw[aA]at d3;have aE:=Aa (show CQ (t.R c) h c (x+1)=m from by rw[aC.o,if_neg ag]);clear aA hR;exact zbt
     | some r=>
      rw[hR]at aA aC;have aA:Cw w mb n (V c x) r:=aA;obtain⟨vb,vo,vc,hV,_,_,_,_⟩:=aA.at_;rw[hV]at d3;by_cases hlt:h x<h m
      .have aE:=Aa (show CQ (t.R c) h c (x+1)=x from by rw[aC.o,if_pos ⟨rfl,hlt⟩]);have b1:decide ((h x:Int)<(h m:Int))=true:=by simp;omega
       have b2:decide (h x<h m)=true:=by simpa using hlt
       exact zbq
      .have aE:=Aa (show CQ (t.R c) h c (x+1)=m from by rw[aC.o,if_neg (fun e=>hlt e.2)]);have b1:decide ((h x:Int)<(h m:Int))=false:=by simp;omega
       have b2:decide (h x<h m)=false:=by simpa using hlt
       exact zbq
    .obtain rfl:x=n:=by omega
     have aD:=HG.o.one c hcn;obtain⟨aO,_,_⟩:=Gw (R:=t.R c) (p:=h) (c:=c) (by rw[aD];rfl) x;obtain⟨r,hr⟩:=Option.isSome_iff_exists.1 aO;obtain⟨m,hm⟩:=nA (CQ (t.R c) h c x);have aV:=Aa (show Th x t.R (x-(c+1)) (c+1) (Aq r h)=E from by
      rw[<-he.o,show x-c=x-(c+1)+1 by omega,WX hr])
     rw[hm]at hr aG ⊢;have aF:m<x:=aG.o;have aA:=HM.o.rep c m hcn aF;rw[hr]at aA;have aA:Cw w mb x (V c m) r:=aA;obtain⟨_,_,aH,_,_⟩:=HG.o.rep _ _ _ hr;obtain⟨vb,vo,vc,hV,_,_,_,_⟩:=aA.at_;have EQ:=Aa ((Ex.refl wr).drewN q);have d3:=EQ.o.cell (hx.o.cell ((HM.o.row c hcn).cell aF));have d4:=EQ.o.cell D2.o;have c1:=EQ.o.cell C1.o;rw[hV]at d3;have aR:=Aa (aA.ex (hx.o.trans EQ.o)).sl;rw[hV]at aR;have aY:=Aa (Fe (wr.drewN q) x r h _ _ aR.o (hu.o.ex EQ.o) ac aH.lt);have aQ:=Aa (aH.comp hp.o);have i5:(0:Int)<=(m:Int):=br;have i6:(m:Int)<(x:Int):=ac;have aZ:=Aa (hx.o.trans EQ.o).size;clear aA hr hV aO aD aH he hm;go_wp2_with (go_at_call 108;refine aY.o.mono ?_;rintro e w3⟨g3,rfl,aB,aK⟩;have aT:=Aa aB.li;have aP:=Aa (hx.o.trans (EQ.o.trans aK));have aU:=Aa (Nat.le_trans aZ.o aB.lt.1);clear aB aK)
     go_roundw
     case rel=>first|exact⟨c+1,Aq r h,some ⟨g3,0,none⟩,x,ac,by go_num,rfl,aT,aQ,aV,Aa (.inr ⟨g3,x,rfl,aU.o⟩),aP⟩|((repeat apply Exists.intro);exact⟨⟨c+1,Aq r h,some ⟨g3,0,none⟩,x,ac,by go_num,rfl,aT,aQ,aV,Aa (.inr ⟨g3,x,rfl,aU.o⟩),aP⟩,rfl⟩)
     case measure=>simp[intOf];omega
  .obtain rfl:c=n:=by omega
   have bB:=Aa (show h=E from by rw[<-he.o,Nat.sub_self];rfl);have aX:=Aa hu.o;have bA:=Aa aM.o;clear he hu aM;go_wp2_with fail
   go_ret;refine⟨.slice a c cap,rfl,by rw[<-bB.o];exact aX.o,bA.o,hx.o⟩
theorem Um:(Tryz.prog.info? 90).map (fun i=>(i.zero,i.size,i.bytes))=some (some (.agg #[.int .i64 0,.slice none 0 0,.slice none 0 0]),3,56):=ah
def Rl:List Lv->List (Value × Value)->List Value
 | l :: L,o :: os=> .int .i64 l.pt :: o.1 :: o.2 :: Rl L os
 | _,_=> []
theorem NG:∀(L:List Lv) (os:List (Value × Value)),os.length=L.length->(Rl L os).length=L.length*3
 | [], [],_=>rfl
 | l :: L,o :: os,h=>by
  have:=NG L os az;simp only[Rl,List.length_cons];omega
 | [],o :: os,h=>by simp at h
 | l :: L, [],h=>by simp at h
theorem NH:∀(L:List Lv) (os:List (Value × Value)) (i:Nat) (l:Lv) (o:Value × Value),L[i]?=some l->os[i]?=some o->(Rl L os)[3*i]?=some (.int .i64 l.pt)/\(Rl L os)[3*i+1]?=some o.1/\(Rl L os)[3*i+2]?=some o.2
 | l' :: L,o' :: os,0,l,o,h,k=>by
  simp at h k;subst h k;exact⟨rfl,rfl,rfl⟩
 | l' :: L,o' :: os,i+1,l,o,h,k=>by
  have:=NH L os i l o az (by simpa using k);rw[show 3*(i+1)=3*i+3 by omega,show 3*i+3+1=3*i+1+3 by omega,show 3*i+3+2=3*i+2+3 by omega];simpa[Rl]using this
 | [],os,i,l,o,h,k=>by simp at h
 | l' :: L, [],i,l,o,h,k=>by simp at k
theorem SF:∀(L:List Lv) (os:List (Value × Value)) (l:Lv) (o:Value × Value),os.length=L.length->Rl (L ++ [l]) (os ++ [o])=Rl L os ++ [.int .i64 l.pt,o.1,o.2]
 | [], [],l,o,_=>rfl
 | l' :: L,o' :: os,l,o,h=>by
  have:=SF L os l o az;simp only[List.cons_append,Rl,this]
 | [],o' :: os,l,o,h=>by simp at h
 | l' :: L, [],l,o,h=>by simp at h
def Er(w:World)(v:Value)(L:List Lv):Prop:=∃os:List (Value × Value),os.length=L.length/\Sl w v L.length 3 (Rl L os)/\∀(i:Nat) (l:Lv) (o:Value × Value),L[i]?=some l->os[i]?=some o->Aj w o.1 l.orb/\BY w o.2 l.reps
theorem zbR{P:Prop}(h:P:=by
 obtain⟨os,h1,h2,h3⟩:=h;exact⟨os,h1,h2.ex hx,fun i l o a b=>⟨(h3 i l o a b).1.ex hx,(h3 i l o a b).2.ex hx⟩⟩):P:=h
theorem Er.ex{w w':World}{v:Value}{L:List Lv}(h:Er w v L)(hx:Ex w w'):Er w' v L:=by
 exact zbR
theorem Er.nil(w:World):Er w (.slice none 0 0) []:=⟨[],rfl,Sl.nil w 3,fun i l o h=>by simp at h⟩
theorem zck{P:Prop}(h:P:=by
 obtain⟨k1,k2⟩:=h7 i l _ hl ho;exact⟨_,_,h9 _ _ g1,h9 _ _ g2,h9 _ _ g3,k1,k2⟩):P:=h
theorem Er.open{w:World}{v:Value}{L:List Lv}(h:Er w v L):∃a cap,v= .slice a L.length cap/\L.length<=cap/\cap<=maxLen/\
  (0<L.length->∃b o,a=some ⟨b,o,none⟩/\∀(i:Nat) (l:Lv),L[i]?=some l->∃u r,w.cell? ⟨b,o+3*i,none⟩=some (.int .i64 l.pt)/\w.cell? ⟨b,o+(3*i+1),none⟩=some u/\w.cell? ⟨b,o+(3*i+2),none⟩=some r/\Aj w u l.orb/\BY w r l.reps):=by
 obtain⟨os,h1,⟨h2,a,cap,h3,h4,h5,h6⟩,h7⟩:=h;refine⟨a,cap,h3,h4,h5,fun hn=>?_⟩;obtain⟨b,o,h8,h9⟩:=h6 hn;refine⟨b,o,h8,fun i l hl=>?_⟩;have hi:=(List.getElem?_eq_some_iff.1 hl).1;have ho:os[i]?=some (os[i]'ac):=List.getElem?_eq_getElem _;obtain⟨g1,g2,g3⟩:=NH L os i l _ hl ho;exact zck
theorem Mx.cons{mb aA:List Nat}{w w':World}(h:Mx mb aA w w')(q:Nat):Mx (q :: mb) (q :: aA) w w':=
 ⟨h.os,h.tape,h.output,h.size,fun i hi hn=>h.block i hi (fun hm=>hn (List.mem_cons_of_mem _ hm)),fun B hB=>by
  rcases List.mem_cons.1 hB with e|e
  .exact .inl (by rw[e];exact List.mem_cons_self ..)
  .rcases h.mb B e with k|k
   .exact .inl (List.mem_cons_of_mem _ k)
   .exact .inr k⟩
structure SI(w:World)(mb:List Nat)(v:Value)(l:List Int):Prop where
 sl:Aj w v l
 off:0<l.length->∀B,v.ownBlock=some B->B ∉ mb/\B<w.heap.size
theorem Sl.mx{mb aA:List Nat}{w w':World}(hx:Mx mb aA w w'){v:Value}{n size:Nat}{xs:List Value}(h:Sl w v n size xs)(ho:0<n->∀B,v.ownBlock=some B->B ∉ mb):Sl w' v n size xs:=by
 obtain⟨h1,a,cap,rfl,h3,h4,h5⟩:=h;refine⟨h1,a,cap,rfl,h3,h4,fun hn=>?_⟩;obtain⟨b,o,rfl,h6⟩:=h5 hn;exact⟨b,o,rfl,fun j u hu=>hx.cell (h6 j u hu) (ho hn b rfl)⟩
theorem SI.mx{mb aA:List Nat}{w w':World}{v:Value}{l:List Int}(h:SI w mb v l)(hx:Mx mb aA w w'):SI w' aA v l:=
 ⟨Sl.mx hx h.sl fun hn B e=>(h.off hn B e).1,fun hn B e=>by
  obtain⟨h1,h2⟩:=h.off hn B e;exact⟨fun hb=>by
   rcases hx.mb B hb with h3|h3
   .exact h1 h3
   .omega,Nat.lt_of_lt_of_le h2 hx.size⟩⟩
structure SM(w:World)(mb:List Nat)(v:Value)(rows:List (List Int))(vals:List Value):Prop where
 sl:Sl w v rows.length 1 vals
 off:0<rows.length->∀B,v.ownBlock=some B->B ∉ mb/\B<w.heap.size
 row:∀(i:Nat) (r:List Int) (u:Value),rows[i]?=some r->vals[i]?=some u->SI w mb u r
theorem SM.mx{mb aA:List Nat}{w w':World}{v:Value}{rows:List (List Int)}{vals:List Value}(h:SM w mb v rows vals)(hx:Mx mb aA w w'):SM w' aA v rows vals:=
 ⟨Sl.mx hx h.sl fun hn B e=>(h.off hn B e).1,fun hn B e=>by
  obtain⟨h1,h2⟩:=h.off hn B e;exact⟨fun hb=>by
   rcases hx.mb B hb with h3|h3
   .exact h1 h3
   .omega,Nat.lt_of_lt_of_le h2 hx.size⟩,fun i r u a b=>(h.row i r u a b).mx hx⟩
theorem SM.msl{w:World}{mb:List Nat}{v:Value}{rows:List (List Int)}{vals:List Value}(h:SM w mb v rows vals):BY w v rows:=⟨vals,h.sl,fun i r u a b=>(h.row i r u a b).sl⟩
structure Xn(w:World)(base q:Nat)(mb:List Nat)(lv:Value)(L:List Lv)(os:List (Value × Value)):Prop where
 own:w.ownsRow base 90 3 lv L.length (Rl L os)
 len:os.length=L.length
 lev:∀(i:Nat) (l:Lv) (o:Value × Value),L[i]?=some l->os[i]?=some o->SI w (q :: mb) o.1 l.orb/\∃vals,SM w (q :: mb) o.2 l.reps vals
 blk:∀B,lv.ownBlock=some B->B∈mb
theorem Xn.ex{w w':World}{base q:Nat}{mb:List Nat}{lv:Value}{L:List Lv}{os:List (Value × Value)}(h:Xn w base q mb lv L os)(hx:Ex w w'):Xn w' base q mb lv L os:=
 ⟨Ai h.own hx,h.len,fun i l o a b=>⟨(h.lev i l o a b).1.mx (Mx.ofEx hx (q :: mb)),by obtain⟨vals,h2⟩:=(h.lev i l o a b).2;exact⟨vals,h2.mx (Mx.ofEx hx (q :: mb))⟩⟩,h.blk⟩
theorem Xn.nil(w:World)(base q:Nat)(mb:List Nat):Xn w base q mb (.slice none 0 0) [] []:=
 ⟨World.ownsRow_nil _ _ _ _,rfl,fun i l o h=>by simp at h,fun B h=>by cases h⟩
theorem Xn.mx{w w':World}{base q:Nat}{mb aA:List Nat}{lv:Value}{L:List Lv}{os:List (Value × Value)}(h:Xn w base q mb lv L os)(hx:Mx mb aA w w')(ho:w'.ownsRow base 90 3 lv L.length (Rl L os))(hb:∀B,lv.ownBlock=some B->B∈aA):Xn w' base q aA lv L os:=
 ⟨ho,h.len,fun i l o a b=>⟨(h.lev i l o a b).1.mx (hx.cons q),by obtain⟨vals,h2⟩:=(h.lev i l o a b).2;exact⟨vals,h2.mx (hx.cons q)⟩⟩,hb⟩
theorem Rg{mb:List Nat}{w w1:World}{base:Nat}{e:TypeId}{size:Nat}{v v':Value}{n:Nat}{xs news:List Value}(ha:Bt w w1 base e size v v' n xs news)(hv:∀B,v.ownBlock=some B->B∈mb){cb j:Nat}{u:Value}(hc:cb∈mb):
  Mx mb (v'.ownBlock.toList++mb) w (w1.setCell ⟨cb,j,none⟩ u):=by
 obtain⟨o,hg⟩:=ha.gr;have hgs:=ha.grow;have aA:(w1.setCell ⟨cb,j,none⟩ u).heap.size=w1.heap.size:=b9;refine⟨hg.os.trans rfl,hg.tape.trans rfl,hg.output.trans rfl,by rw[aA];omega,fun i hi hn=>?_,fun B hB=>?_⟩
 .rw[Below.heap_setCell _ _ _ _ (fun e=>hn (by have e:i=cb:=e;rw[e];exact hc))];rw[hg.block i aq (fun e=>hn (hv i e.symm))];exact((Ex.refl w).alloc o).block i hi
 .rcases List.mem_append.1 hB with h1|h1
  .have h1:v'.ownBlock=some B:=by simpa using h1
   rcases ha.at_ with h2|h2
   .rw[h2]at h1;exact .inl (hv B h1)
   .rw[h2]at h1;injection h1 with h1;exact .inr ac
  .exact .inl h1
theorem FP(w:World)(a b:Addr)(u:Value):(w.setCell a u).frozen? b=w.frozen? b:=ag
structure Ma(w0 wr:World)(q n b ob lb:Nat)(lv:Value)(L:List Lv)(os:List (Value × Value))(ov:Value)(orb:List Int)(rv:Value)(reps:List (List Int))(vals:List Value)(mb:List Nat):Prop where
 oc0:wr.cell? ⟨ob,0,none⟩=some (.int .i64 n)
 oc1:wr.cell? ⟨ob,1,none⟩=some lv
 of1:wr.frozen? ⟨ob,1,none⟩=false
 lc0:wr.cell? ⟨lb,0,none⟩=some (.int .i64 b)
 lc1:wr.cell? ⟨lb,1,none⟩=some ov
 lc2:wr.cell? ⟨lb,2,none⟩=some rv
 lf1:wr.frozen? ⟨lb,1,none⟩=false
 lf2:wr.frozen? ⟨lb,2,none⟩=false
 ne:ob≠lb
 ch:Xn wr w0.heap.size q mb lv L os
 ovo:wr.ownsRow w0.heap.size 3 1 ov orb.length (An orb)
 rvo:wr.ownsRow w0.heap.size 22 1 rv reps.length vals
 rows:∀(i:Nat) (r:List Int) (u:Value),reps[i]?=some r->vals[i]?=some u->SI wr (q :: mb) u r
 a1:AP ov lv
 a2:AP rv lv
 a3:AP ov rv
 nov:∀B,ov.ownBlock=some B->B≠ob/\B≠lb/\B∈mb
 nrv:∀B,rv.ownBlock=some B->B≠ob/\B≠lb/\B∈mb
 nlv:∀B,lv.ownBlock=some B->B≠ob/\B≠lb/\B∈mb
 om:ob∈mb
 ql:q<w0.heap.size
 lm:lb∈mb
 lo:∀B∈mb,w0.heap.size<=B/\B<wr.heap.size
 ex:Ex w0 wr
section
variable {w0 wr:World} {q n b ob lb:Nat} {lv:Value} {L:List Lv} {os:List (Value × Value)} {ov:Value} {orb:List Int} {rv:Value} {reps:List (List Int)} {vals:List Value} {mb:List Nat}
theorem Ma.later(h:Ma w0 wr q n b ob lb lv L os ov orb rv reps vals mb){w':World}(hx:Ex wr w'):Ma w0 w' q n b ob lb lv L os ov orb rv reps vals mb:=
 ⟨hx.cell h.oc0,hx.cell h.oc1,hx.frz h.oc1 h.of1,hx.cell h.lc0,hx.cell h.lc1,hx.cell h.lc2,hx.frz h.lc1 h.lf1,hx.frz h.lc2 h.lf2,h.ne,h.ch.ex hx,Ai h.ovo hx,Ai h.rvo hx,fun i r u a c=>(h.rows i r u a c).mx (Mx.ofEx hx (q :: mb)),h.a1,h.a2,h.a3,h.nov,h.nrv,h.nlv,h.om,h.ql,h.lm,fun B hB=>⟨(h.lo B hB).1,Nat.lt_of_lt_of_le (h.lo B hB).2 hx.size⟩,h.ex.trans hx⟩
theorem zb6{P:Prop}(h:P:=by
 rw[World.cell?_setCell_other _ _ _ _ (by intro e;injection e with e;exact h.ne e.symm)];exact k):P:=h
theorem zb9{P:Prop}(h:P:=by
 rcases List.mem_append.1 hB with h1|h1
 .exact ha.own.lt B (by simpa using h1)
 .exact za2):P:=h
theorem Ma.appOrb(h:Ma w0 wr q n b ob lb lv L os ov orb rv reps vals mb){w1:World}{ov':Value}{x:Int}(ha:Bt wr w1 w0.heap.size 3 1 ov ov' orb.length (An orb) [.int .i64 x]):
  ∃aH,Ma w0 (w1.setCell ⟨lb,1,none⟩ ov') q n b ob lb lv L os ov' (orb ++ [x]) rv reps vals aH/\Mx mb aH wr (w1.setCell ⟨lb,1,none⟩ ov'):=by
 have aF:=Rg (j:=1) (u:=ov') ha (fun B e=>(h.nov B e).2.2) h.lm;have aK:(w1.setCell ⟨lb,1,none⟩ ov').heap.size=w1.heap.size:=b9;have hgs:=ha.grow;have aB:some ob≠ov.ownBlock:=fun e=>(h.nov ob e.symm).1 rfl;have aA:some lb≠ov.ownBlock:=fun e=>(h.nov lb e.symm).2.1 rfl;have obl:=(h.lo ob h.om).2;have lbl:=(h.lo lb h.lm).2;have aG:∀B,ov'.ownBlock=some B->B≠ob/\B≠lb:=fun B e=>by
  rcases ha.at_ with h1|h1
  .rw[h1]at e;exact⟨(h.nov B e).1,(h.nov B e).2.1⟩
  .rw[h1]at e;injection e with e;omega
 have aC:∀ {j:Nat} {v:Value},w1.cell? ⟨ob,j,none⟩=some v->(w1.setCell ⟨lb,1,none⟩ ov').cell? ⟨ob,j,none⟩=some v:=fun k=>by
  exact zb6
 have aD:∀ {j:Nat} {v:Value},1≠j->w1.cell? ⟨lb,j,none⟩=some v->(w1.setCell ⟨lb,1,none⟩ ov').cell? ⟨lb,j,none⟩=some v:=fun hj k=>by
  rw[Ag hj];exact k
 have aE:∀ {e:TypeId} {size:Nat} {v:Value} {m:Nat} {xs:List Value},wr.ownsRow w0.heap.size e size v m xs->AP v ov->(∀B,v.ownBlock=some B->B≠lb)->(w1.setCell ⟨lb,1,none⟩ ov').ownsRow w0.heap.size e size v m xs/\AP v ov':=fun k hk hb=>
  ⟨Ac (ha.row k hk).1 (fun e=>hb _ e rfl) _,(ha.row k hk).2⟩
 have aJ:=aE h.ch.own h.a1.symm (fun B e=>(h.nlv B e).2.1);have aI:=aE h.rvo h.a3.symm (fun B e=>(h.nrv B e).2.1);refine⟨ov'.ownBlock.toList++mb,⟨aC (ha.cell h.oc0 aB),aC (ha.cell h.oc1 aB),by rw[FP];exact ha.frz h.oc1 h.of1 aB,aD ae (ha.cell h.lc0 aA),?_,aD ae (ha.cell h.lc2 aA),by rw[FP];exact ha.frz h.lc1 h.lf1 aA,by rw[FP];exact ha.frz h.lc2 h.lf2 aA,h.ne,h.ch.mx aF aJ.1 (fun B e=>List.mem_append_right _ (h.nlv B e).2.2),?_,aI.1,fun i r u a c=>(h.rows i r u a c).mx (aF.cons q),aJ.2.symm,h.a2,aI.2.symm,fun B e=>⟨(aG B e).1,(aG B e).2,List.mem_append_left _ (by rw[e];simp)⟩,fun B e=>⟨(h.nrv B e).1,(h.nrv B e).2.1,List.mem_append_right _ (h.nrv B e).2.2⟩,fun B e=>⟨(h.nlv B e).1,(h.nlv B e).2.1,List.mem_append_right _ (h.nlv B e).2.2⟩,List.mem_append_right _ h.om,h.ql,List.mem_append_right _ h.lm,fun B hB=>?_,aF.ex h.ex (fun B hB=>(h.lo B hB).1)⟩,aF⟩
 .exact World.cell?_setCell_same _ _ _ (ha.cell h.lc1 aA)
 .have:=ha.own;rw[List.length_append];exact Ac (by simpa[An]using this) (fun e=>(aG _ e).2 rfl) _
 .rw[aK];exact zb9
theorem zc4{P:Prop}(h:P:=by
 have:=(List.getElem?_eq_some_iff.1 a).1;simp at this;omega):P:=h
theorem Ma.appRep(h:Ma w0 wr q n b ob lb lv L os ov orb rv reps vals mb){w1:World}{rv' z:Value}{r:List Int}(hz:SI wr (q :: mb) z r)(ha:Bt wr w1 w0.heap.size 22 1 rv rv' reps.length vals [z]):
  ∃aH,Ma w0 (w1.setCell ⟨lb,2,none⟩ rv') q n b ob lb lv L os ov orb rv' (reps ++ [r]) (vals ++ [z]) aH/\Mx mb aH wr (w1.setCell ⟨lb,2,none⟩ rv'):=by
 have aF:=Rg (j:=2) (u:=rv') ha (fun B e=>(h.nrv B e).2.2) h.lm;have aM:(w1.setCell ⟨lb,2,none⟩ rv').heap.size=w1.heap.size:=b9;have hgs:=ha.grow;have aB:some ob≠rv.ownBlock:=fun e=>(h.nrv ob e.symm).1 rfl;have aA:some lb≠rv.ownBlock:=fun e=>(h.nrv lb e.symm).2.1 rfl;have obl:=(h.lo ob h.om).2;have lbl:=(h.lo lb h.lm).2;have aG:∀B,rv'.ownBlock=some B->B≠ob/\B≠lb:=fun B e=>by
  rcases ha.at_ with h1|h1
  .rw[h1]at e;exact⟨(h.nrv B e).1,(h.nrv B e).2.1⟩
  .rw[h1]at e;injection e with e;omega
 have aC:∀ {j:Nat} {v:Value},w1.cell? ⟨ob,j,none⟩=some v->(w1.setCell ⟨lb,2,none⟩ rv').cell? ⟨ob,j,none⟩=some v:=fun k=>by
  exact zb6
 have aD:∀ {j:Nat} {v:Value},2≠j->w1.cell? ⟨lb,j,none⟩=some v->(w1.setCell ⟨lb,2,none⟩ rv').cell? ⟨lb,j,none⟩=some v:=fun hj k=>by
  rw[Ag hj];exact k
 have aE:∀ {e:TypeId} {size:Nat} {v:Value} {m:Nat} {xs:List Value},wr.ownsRow w0.heap.size e size v m xs->AP v rv->(∀B,v.ownBlock=some B->B≠lb)->(w1.setCell ⟨lb,2,none⟩ rv').ownsRow w0.heap.size e size v m xs/\AP v rv':=fun k hk hb=>
  ⟨Ac (ha.row k hk).1 (fun e=>hb _ e rfl) _,(ha.row k hk).2⟩
 have aK:=aE h.ch.own h.a2.symm (fun B e=>(h.nlv B e).2.1);have aI:=aE h.ovo h.a3 (fun B e=>(h.nov B e).2.1);have aL:vals.length=reps.length:=by have:=h.rvo.1;omega
 refine⟨rv'.ownBlock.toList++mb,⟨aC (ha.cell h.oc0 aB),aC (ha.cell h.oc1 aB),by rw[FP];exact ha.frz h.oc1 h.of1 aB,aD ae (ha.cell h.lc0 aA),aD ae (ha.cell h.lc1 aA),?_,by rw[FP];exact ha.frz h.lc1 h.lf1 aA,by rw[FP];exact ha.frz h.lc2 h.lf2 aA,h.ne,h.ch.mx aF aK.1 (fun B e=>List.mem_append_right _ (h.nlv B e).2.2),aI.1,?_,fun i r' u a c=>?_,h.a1,aK.2.symm,aI.2,fun B e=>⟨(h.nov B e).1,(h.nov B e).2.1,List.mem_append_right _ (h.nov B e).2.2⟩,fun B e=>⟨(aG B e).1,(aG B e).2,List.mem_append_left _ (by rw[e];simp)⟩,fun B e=>⟨(h.nlv B e).1,(h.nlv B e).2.1,List.mem_append_right _ (h.nlv B e).2.2⟩,List.mem_append_right _ h.om,h.ql,List.mem_append_right _ h.lm,fun B hB=>?_,aF.ex h.ex (fun B hB=>(h.lo B hB).1)⟩,aF⟩
 .exact World.cell?_setCell_same _ _ _ (ha.cell h.lc2 aA)
 .have:=ha.own;rw[List.length_append];exact Ac this (fun e=>(aG _ e).2 rfl) _
 .by_cases hi:i<reps.length
  .rw[List.getElem?_append_left hi]at a;rw[List.getElem?_append_left ac]at c;exact(h.rows i r' u a c).mx (aF.cons q)
  .rw[List.getElem?_append_right ac]at a;rw[List.getElem?_append_right ac]at c;have aJ:i-reps.length=0:=by
    exact zc4
   rw[aJ]at a;rw[aL,aJ]at c;simp at a c;subst a c;exact hz.mx (aF.cons q)
 .rw[aM];exact zb9
end
structure Z5(w0 wr:World)(q n ob:Nat)(lv:Value)(L:List Lv)(os:List (Value × Value))(mb:List Nat):Prop where
 oc0:wr.cell? ⟨ob,0,none⟩=some (.int .i64 n)
 oc1:wr.cell? ⟨ob,1,none⟩=some lv
 of1:wr.frozen? ⟨ob,1,none⟩=false
 ch:Xn wr w0.heap.size q mb lv L os
 nlv:∀B,lv.ownBlock=some B->B≠ob
 om:ob∈mb
 ql:q<w0.heap.size
 lo:∀B∈mb,w0.heap.size<=B/\B<wr.heap.size
 ex:Ex w0 wr
theorem Z5.begin_{w0 wr:World}{q n b ob:Nat}{lv:Value}{L:List Lv}{os:List (Value × Value)}{mb:List Nat}(h:Z5 w0 wr q n ob lv L os mb):
  Ma w0 (wr.alloc (.cells #[.int .i64 b,.slice none 0 0,.slice none 0 0] 90)) q n b ob wr.heap.size lv L os (.slice none 0 0) [] (.slice none 0 0) [] [] (wr.heap.size :: mb)/\Mx mb (wr.heap.size :: mb) wr (wr.alloc (.cells #[.int .i64 b,.slice none 0 0,.slice none 0 0] 90)):=by
 have hx:Ex wr (wr.alloc (.cells #[.int .i64 b,.slice none 0 0,.slice none 0 0] 90)):=(Ex.refl _).alloc _;have aB:(wr.alloc (.cells #[.int .i64 b,.slice none 0 0,.slice none 0 0] 90)).heap.size=wr.heap.size+1:=ag;have aA:Mx mb (wr.heap.size :: mb) wr (wr.alloc (.cells #[.int .i64 b,.slice none 0 0,.slice none 0 0] 90)):=by
  refine⟨hx.os,hx.tape,hx.output,hx.size,fun i hi _=>hx.block i hi,fun B hB=>?_⟩;rcases List.mem_cons.1 hB with e|e
  .exact .inr ac
  .exact .inl e
 have hob:=(h.lo ob h.om).2;refine⟨⟨hx.cell h.oc0,hx.cell h.oc1,hx.frz h.oc1 h.of1,ag,ag,ag,ag,ag,ac,h.ch.mx aA (Ai h.ch.own hx) (fun B e=>List.mem_cons_of_mem _ (h.ch.blk B e)),World.ownsRow_nil _ _ _ _,World.ownsRow_nil _ _ _ _,fun i r u a=>by simp at a,AP.nil _,AP.nil _,AP.nil _,fun B e=>(by cases e),fun B e=>(by cases e),fun B e=>⟨h.nlv B e,by have:=(h.lo B (h.ch.blk B e)).2;omega,List.mem_cons_of_mem _ (h.ch.blk B e)⟩,List.mem_cons_of_mem _ h.om,h.ql,List.mem_cons_self ..,fun B hB=>?_,h.ex.trans hx⟩,aA⟩;rw[aB];rcases List.mem_cons.1 hB with e|e
 .subst e;have:=h.ex.size;omega
 .have:=h.lo B e;omega
theorem Ma.drop{w0 wr:World}{q n b ob lb:Nat}{lv:Value}{L:List Lv}{os:List (Value × Value)}{ov:Value}{orb:List Int}{rv:Value}{reps:List (List Int)}{vals:List Value}{mb:List Nat}(h:Ma w0 wr q n b ob lb lv L os ov orb rv reps vals mb):Z5 w0 wr q n ob lv L os mb:=
 ⟨h.oc0,h.oc1,h.of1,h.ch,fun B e=>(h.nlv B e).1,h.om,h.ql,h.lo,h.ex⟩
theorem Ma.keep{w0 wr:World}{q n b ob lb:Nat}{lv:Value}{L:List Lv}{os:List (Value × Value)}{ov:Value}{orb:List Int}{rv:Value}{reps:List (List Int)}{vals:List Value}{mb:List Nat}(h:Ma w0 wr q n b ob lb lv L os ov orb rv reps vals mb){w1:World}{aA:Value}
  (ha:Bt wr w1 w0.heap.size 90 3 lv aA L.length (Rl L os) [.int .i64 b,ov,rv]):
  ∃mb',Z5 w0 (w1.setCell ⟨ob,1,none⟩ aA) q n ob aA (L ++ [⟨b,orb,reps⟩]) (os ++ [(ov,rv)]) mb':=by
 have aB:Mx mb (ob :: lv.ownBlock.toList) wr wr:=⟨rfl,rfl,rfl,Nat.le_refl _,fun _ _ _=>rfl,fun B hB=>by
  rcases List.mem_cons.1 hB with e|e
  .subst e;exact .inl h.om
  .exact .inl (h.nlv B (by simpa using e)).2.2⟩
 have aF:=Rg (mb:=ob :: lv.ownBlock.toList) (j:=1) (u:=aA) (cb:=ob) ha (fun B e=>List.mem_cons_of_mem _ (by rw[e];simp)) (List.mem_cons_self ..);have aI:(w1.setCell ⟨ob,1,none⟩ aA).heap.size=w1.heap.size:=by simp[World.setCell]
 have hgs:=ha.grow;have aC:some ob≠lv.ownBlock:=fun e=>(h.nlv ob e.symm).1 rfl;have obl:=(h.lo ob h.om).2;have aH:∀B,aA.ownBlock=some B->B≠ob:=fun B e=>by
  rcases ha.at_ with h1|h1
  .rw[h1]at e;exact(h.nlv B e).1
  .rw[h1]at e;injection e with e;omega
 have aE:∀B,ov.ownBlock=some B->B ∉ ob :: lv.ownBlock.toList:=fun B e hm=>by
  rcases List.mem_cons.1 hm with e2|e2
  .exact(h.nov B e).1 e2
  .have e2:lv.ownBlock=some B:=by simpa using e2
   rcases h.a1 with k|k
   .rw[k]at e;cases e
   .exact k (by rw[e,e2])
 have aD:∀B,rv.ownBlock=some B->B ∉ ob :: lv.ownBlock.toList:=fun B e hm=>by
  rcases List.mem_cons.1 hm with e2|e2
  .exact(h.nrv B e).1 e2
  .have e2:lv.ownBlock=some B:=by simpa using e2
   rcases h.a2 with k|k
   .rw[k]at e;cases e
   .exact k (by rw[e,e2])
 have aK:SI wr (q :: ob :: lv.ownBlock.toList) ov orb:=⟨Sl.own h.ovo,fun _ B e=>⟨fun hm=>by
  rcases List.mem_cons.1 hm with e2|e2
  .have:=(h.ovo.lt B e).1;have:=h.ql;omega
  .exact aE B e e2,(h.ovo.lt B e).2⟩⟩
 have aJ:SM wr (q :: ob :: lv.ownBlock.toList) rv reps vals:=⟨Sl.own h.rvo,fun _ B e=>⟨fun hm=>by
  rcases List.mem_cons.1 hm with e2|e2
  .have:=(h.rvo.lt B e).1;have:=h.ql;omega
  .exact aD B e e2,(h.rvo.lt B e).2⟩,fun i r u a c=>(h.rows i r u a c).mx (aB.cons q)⟩
 refine⟨aA.ownBlock.toList++(ob :: lv.ownBlock.toList),?_,?_,by rw[FP];exact ha.frz h.oc1 h.of1 aC,⟨?_,by simp[h.ch.len],fun i l o a c=>?_,fun B e=>List.mem_append_left _ (by rw[e];simp)⟩,aH,List.mem_append_right _ (List.mem_cons_self ..),h.ql,fun B hB=>?_,aF.ex h.ex (fun B hB=>?_)⟩
 .rw[Ag ae];exact ha.cell h.oc0 aC
 .exact World.cell?_setCell_same _ _ _ (ha.cell h.oc1 aC)
 .rw[SF L os ⟨b,orb,reps⟩ (ov,rv) h.ch.len,List.length_append];exact Ac ha.own (fun e=>aH _ e rfl) _
 .by_cases hi:i<L.length
  .rw[List.getElem?_append_left hi]at a;rw[List.getElem?_append_left (by have:=h.ch.len;omega)]at c;obtain⟨k1,v2,k2⟩:=h.ch.lev i l o a c;exact⟨(k1.mx (aB.cons q)).mx (aF.cons q),v2,(k2.mx (aB.cons q)).mx (aF.cons q)⟩
  .rw[List.getElem?_append_right ac]at a;rw[List.getElem?_append_right (by have:=h.ch.len;omega)]at c;have aG:i-L.length=0:=by
    exact zc4
   rw[aG]at a;rw[h.ch.len,aG]at c;simp at a c;subst a c;exact⟨aK.mx (aF.cons q),vals,aJ.mx (aF.cons q)⟩
 .rw[aI];rcases List.mem_append.1 hB with h1|h1
  .exact ha.own.lt B bt
  .rcases List.mem_cons.1 h1 with e|e
   .subst e;exact⟨(h.lo B h.om).1,ac⟩
   .have:=h.lo B (h.nlv B (by simpa using e)).2.2;exact⟨this.1,ac⟩
 .rcases List.mem_cons.1 hB with e|e
  .subst e;exact(h.lo B h.om).1
  .exact(h.lo B (h.nlv B (by simpa using e)).2.2).1
theorem Z5.o{w0 wr:World}{q n ob:Nat}{lv:Value}{L:List Lv}{os:List (Value × Value)}{mb:List Nat}(h:Z5 w0 wr q n ob lv L os mb)(u v:Value):Er ((wr.setCell ⟨q,0,none⟩ u).setCell ⟨q,1,none⟩ v) lv L:=by
 have aA:lv.ownBlock≠some q:=fun e=>by
  have:=(h.lo q (h.ch.blk q e)).1;have:=h.ql;omega
 have hM:Mx (q :: mb) (q :: mb) wr ((wr.setCell ⟨q,0,none⟩ u).setCell ⟨q,1,none⟩ v):=by
  refine⟨rfl,rfl,rfl,by simp[World.setCell],fun i hi hn=>?_,fun B hB=> .inl hB⟩;have aB:i≠q:=fun e=>hn (by rw[e];exact List.mem_cons_self ..);rw[Below.heap_setCell _ _ _ _ aB,Below.heap_setCell _ _ _ _ aB]
 refine⟨os,h.ch.len,Sl.own (Ac (Ac h.ch.own aA u) aA v),fun i l o a c=>?_⟩;obtain⟨k1,vals,k2⟩:=h.ch.lev i l o a c;exact⟨(k1.mx hM).sl,(k2.mx hM).msl⟩
open Classical in
noncomputable def Bn (S:List (Nat->Nat)) (b m:Nat):List Nat:=(List.range m).filter fun x=>decide (∃f,Gn S f/\AX b f/\f b=x)
open Classical in
theorem Mz (S:List (Nat->Nat)) (b m:Nat):((∃f,Gn S f/\AX b f/\f b=m)->Bn S b (m+1)=Bn S b m ++ [m])/\(¬(∃f,Gn S f/\AX b f/\f b=m)->Bn S b (m+1)=Bn S b m):=by
 unfold Bn;rw[List.range_succ,List.filter_append];constructor
 .intro h;simp[List.filter,h]
 .intro h;have h2:decide (∃f,Gn S f/\AX b f/\f b=m)=false:=decide_eq_false h;simp only[List.filter,h2,List.append_nil]
theorem Fm(S:List (Nat->Nat))(b m:Nat):(Bn S b m).length<=m:=by
 unfold Bn;exact Nat.le_trans (List.length_filter_le _ _) ag
noncomputable def DZ(n:Nat)(S:List (Nat->Nat))(b m:Nat):List (List Int):=(Bn S b m).map fun x=>li n (Fa n S b x)
noncomputable def Fp(n:Nat)(S:List (Nat->Nat))(b:Nat):Lv:=⟨b,CO (Bn S b n),DZ n S b n⟩
noncomputable def Ce(n:Nat)(S:List (Nat->Nat))(m:Nat):List Lv:=((List.range m).map (Fp n S)).filter fun l=>decide (1<l.orb.length)
theorem MV(n:Nat)(S:List (Nat->Nat))(m:Nat):Ce n S (m+1)=Ce n S m++if 1<(Fp n S m).orb.length then [Fp n S m] else []:=by
 unfold Ce;rw[List.range_succ,List.map_append,List.filter_append]
 congr 1
 by_cases h:1<(Fp n S m).orb.length <;> simp[List.filter,h]
theorem Qe(n:Nat)(S:List (Nat->Nat))(m:Nat):(Ce n S m).length<=m:=by
 unfold Ce;refine Nat.le_trans (List.length_filter_le _ _) ag
section
variable {w0 wr:World} {q n b ob lb:Nat} {lv:Value} {L:List Lv} {os:List (Value × Value)} {ov:Value} {orb:List Int} {rv:Value} {reps:List (List Int)} {vals:List Value} {mb:List Nat}
theorem Ma.atOrb(h:Ma w0 wr q n b ob lb lv L os ov orb rv reps vals mb){w1:World}{aA:Value}{x:Int}(ha:Bt wr w1 w0.heap.size 3 1 ov aA orb.length (An orb) [.int .i64 x]):w1.cell? ⟨lb,1,none⟩=some ov/\w1.frozen? ⟨lb,1,none⟩=false:=
 ⟨ha.cell h.lc1 (fun e=>(h.nov lb e.symm).2.1 rfl),ha.frz h.lc1 h.lf1 (fun e=>(h.nov lb e.symm).2.1 rfl)⟩
theorem Ma.atRep(h:Ma w0 wr q n b ob lb lv L os ov orb rv reps vals mb){w1:World}{aA z:Value}(ha:Bt wr w1 w0.heap.size 22 1 rv aA reps.length vals [z]):w1.cell? ⟨lb,2,none⟩=some rv/\w1.frozen? ⟨lb,2,none⟩=false:=
 ⟨ha.cell h.lc2 (fun e=>(h.nrv lb e.symm).2.1 rfl),ha.frz h.lc2 h.lf2 (fun e=>(h.nrv lb e.symm).2.1 rfl)⟩
theorem Ma.atLev(h:Ma w0 wr q n b ob lb lv L os ov orb rv reps vals mb){w1:World}{aA:Value}{news:List Value}(ha:Bt wr w1 w0.heap.size 90 3 lv aA L.length (Rl L os) news):w1.cell? ⟨ob,1,none⟩=some lv/\w1.frozen? ⟨ob,1,none⟩=false:=
 ⟨ha.cell h.oc1 (fun e=>(h.nlv ob e.symm).1 rfl),ha.frz h.oc1 h.of1 (fun e=>(h.nlv ob e.symm).1 rfl)⟩
end
theorem Uy(w:World){base n tb rb gb:Nat}{rr:Nat->Nat}{bE:List Nat}{t:Tw}{S:List (Nat->Nat)}{k0:Nat}(bZ:UB w base n tb rb gb rr bE t)(hB:ID n S t k0)(bJ:S.length<=k0)(hS:∀s∈S,Bd n s)(aP:1<=n)(hn:n<=64):
  Calls Tryz.prog 175 #[.pointer (some ⟨tb,0,none⟩)] w fun r w'=>∃lv,r= .returned (.agg #[.int .i64 n,lv])/\Er w' lv (Ce n S n)/\Ex w w':=by
 obtain⟨gv,V,hM⟩:=bZ;obtain⟨HM,HB,HS,aL,bD⟩:=Of hM hB hS (fun b (hb:b<n) x=>hB.orb aP hS bJ hb x) (fun b x (hb:b<n) r (hr:t.R b x=some r)=>hB.canon aP hS bJ hb hr);have hn0:n<=64:=hn;clear hM hB hS;go_enter Tryz.func175,Tryz.ntmps175
 have ea:Ex w (w.alloc (.cells #[.int .i64 0,.slice none 0 0] 43)):=(Ex.refl _).alloc _;have eb:Ex (w.alloc (.cells #[.int .i64 0,.slice none 0 0] 43)) ((w.alloc (.cells #[.int .i64 0,.slice none 0 0] 43)).alloc (.cells #[.int .i64 n,.slice none 0 0] 43)):=(Ex.refl _).alloc _;have c0:=ea.cell HM.o.c0;have cF:=eb.cell c0;go_wp2_with fail
 obtain⟨q,hq⟩:=nA w.heap.size;have bB:=Aa (HM.o.ex ea);have aJ:(w.alloc (.cells #[.int .i64 0,.slice none 0 0] 43)).heap.size=q+1:=by simp[hq]
 have q0:(w.alloc (.cells #[.int .i64 0,.slice none 0 0] 43)).cell? ⟨q,0,none⟩=some (.int .i64 0):=by rw[<-hq];simp
 have q1:(w.alloc (.cells #[.int .i64 0,.slice none 0 0] 43)).cell? ⟨q,1,none⟩=some (.slice none 0 0):=by rw[<-hq];simp
 have aS:(w.alloc (.cells #[.int .i64 0,.slice none 0 0] 43)).frozen? ⟨q,0,none⟩=false:=by rw[<-hq];simp
 have aR:(w.alloc (.cells #[.int .i64 0,.slice none 0 0] 43)).frozen? ⟨q,1,none⟩=false:=by rw[<-hq];simp
 try simp only[hq]
 generalize w.alloc (.cells #[.int .i64 0,.slice none 0 0] 43)=wR at *;have aN:=Aa (show Z5 wR (wR.alloc (.cells #[.int .i64 n,.slice none 0 0] 43)) q n (q+1) (.slice none 0 0) [] [] [q+1] from⟨by rw[<-aJ];simp,by rw[<-aJ];simp,by rw[<-aJ];simp,Xn.nil _ _ _ _,fun B e=>(by cases e),ag,ac,fun B hB=>by
  rw[List.mem_singleton.1 hB,<-aJ];simp,eb⟩)
 obtain⟨EA,Q0,Q1,cH,cG,bA⟩:=To ea q0 q1 aS aR (show w.heap.size<=q from ac);clear ea eb c0 cF q0 q1 aS aR aJ;generalize wR.alloc (.cells #[.int .i64 n,.slice none 0 0] 43)=wA at *;clear hq
 go_loopw [17] (fun b' wr=>∃(b:Nat) (lv:Value) (os:List (Value × Value)) (mb:List Nat),b<=n/\b'= .int .i64 b/\Hia (Z5 wR wr q n (q+1) lv (Ce n S b) os mb)) (fun b' _=>n-(intOf b').toNat)
 case atStart=>exact⟨0,_, [],_,ac,rfl,aN⟩
 case round=>
  clear aN;obtain⟨b,lv,os,mb,hb,rfl,aE⟩:=hrel;have cO:=Aa (Qe n S b);by_cases hbn:b<n
  .have i1:(0:Int)<=(b:Int):=by omega
   have i2:(b:Int)<(n:Int):=ac;obtain⟨aH,cC⟩:=aE.o.begin_ (b:=b);have bC:=Aa aH;have bP:=Aa (bB.o.ex aH.ex);have c1:=bP.o.c1;have c3:=bP.o.ro b hbn;clear aH cC aE;go_wp2_with fail
   obtain⟨lb,aX⟩:=nA wr.heap.size;rw[aX]at bC
   try simp only[aX]
   generalize wr.alloc (.cells #[.int .i64 b,.slice none 0 0,.slice none 0 0] 90)=wb at *;clear aX c1 c3
   go_loopw [30] (fun x' wr=>∃(x:Nat) (ov rv:Value) (vals:List Value) (mb:List Nat),x<=n/\x'= .int .i64 x/\Hia (Ma wR wr q n b (q+1) lb lv (Ce n S b) os ov (CO (Bn S b x)) rv (DZ n S b x) vals mb)) (fun x' _=>n-(intOf x').toNat)
   case atStart=>exact⟨0,_,_,_,_,ac,rfl,bC⟩
   case round=>
    clear bC;obtain⟨x,ov,rv,vals,mb,hx,rfl,aG⟩:=hrel;by_cases hxn:x<n
    .have i3:(0:Int)<=(x:Int):=by omega
     have i4:(x:Int)<(n:Int):=ac;have bO:=Aa (bB.o.ex aG.o.ex);have d3:=(bO.o.row b hbn).cell hxn;have aA:=HM.o.rep b x hbn hxn
     cases hR:t.R b x with
     | none=>
      rw[hR]at aA;have aA:V b x= .slice none 0 0:=aA;rw[aA]at d3;have aM:=Aa ((Mz S b x).2 (fun h=>by
       obtain⟨r,hr⟩:=(aL.o b hbn x).2 h;rw[hR]at hr;cases hr))
      have aQ:=Aa (show DZ n S b (x+1)=DZ n S b x from by unfold DZ;rw[aM.o]);clear aA hR;go_wp2_with fail
      go_roundw
      case rel=>exact⟨x+1,ov,rv,vals,mb,ac,by go_num,by rw[aM.o,aQ.o];exact aG⟩
      case measure=>simp[intOf];omega
     | some r=>
      rw[hR]at aA;have aA:Cw _ bE n (V b x) r:=aA;obtain⟨vb,vo,vc,hV,_,_,bG,_⟩:=aA.at_;obtain⟨_,_,bI,cB,cA⟩:=HB.o.good.rep _ _ _ hR;rw[hV]at d3;have aM:=Aa ((Mz S b x).1 ((aL.o b hbn x).1 ⟨r,hR⟩));obtain⟨cM,aQ,bQ,aC⟩:=Eq (JQ HS.o (bD.o b x hbn r hR)) (show DZ n S b (x+1)=DZ n S b x ++ [li n (Fa n S b x)] from by unfold DZ;rw[aM.o,List.map_append];rfl) (show CO (Bn S b (x+1))=CO (Bn S b x) ++ [(x:Int)] from by rw[aM.o,SS]) aG.o;obtain⟨oa,oc,aV⟩:=Ae aC.o.ovo;subst aV;have c1:=aC.o.lc1;have hol:(CO (Bn S b x)).length<=64:=by rw[Ci];have:=Fm S b x;omega
      obtain⟨aY,cK,cL,cI⟩:=Eq aC.o.ex.size (show Aj wR (.slice (some ⟨vb,vo,none⟩) n vc) (li n r) from by rw[<-hV];exact aA.sl.ex EA.o) bI bG;clear aA hV bI cB cA aG bO hR bG;go_upto_region 11 with (at_builtin;refine Al _ rfl _ _ 22 rfl wR.heap.size 3 (.int .i64 0) 1 8 Tryz.underlying22 AA rfl ae _ (CO (Bn S b x)).length _ rfl aC.o.ovo [.int .i64 (x:Int)] 3 _ rfl ag rfl aj ai ac aY.o ?_)
      intro ov' w4 aB;obtain⟨bT,bS,aU⟩:=Ae aB.own;subst aU;obtain⟨e1,e2⟩:=aC.o.atOrb aB;obtain⟨bU,bH,_⟩:=aC.o.appOrb aB;have aF:=Aa bH;clear aB bH d3 c1;go_upto_region 11 with fail
      obtain⟨wo,bF⟩:=nA (w4.setCell ⟨lb,1,none⟩ (.slice bT ((CO (Bn S b x)).length+1) bS));rw[bF]at aF ⊢;clear bF e1 e2;obtain⟨ra,rc,aT⟩:=Ae aF.o.rvo;subst aT;have c2:=aF.o.lc2;have E0:Ex wo wo.drew:=(Ex.refl wo).drew;have hrl:(DZ n S b x).length<=64:=by unfold DZ;rw[List.length_map];have:=Fm S b x;omega
      have cP:=Aa (fun w5 (h5:Ex wo w5)=>Pi w5 (bB.o.ex (aF.o.ex.trans h5)) HB.o.good aP hn _ r b hbn (cK.o.ex (aF.o.ex.trans h5)) cL.o)
      go_region_law ((first|(go_simp;go_at_call 211;(with_reducible refine(cP.o _ E0).mono ?_);rintro e w5⟨z,rfl,hz,bL,bX⟩;have E5:=E0.trans bX;have bN:=E5.cell c2;obtain⟨za,zc,bV,_,_,_⟩:=DQ hz;subst bV;have cE:=((Ex.refl w5).alloc (.cells #[.slice za n zc] 22)).cell bN;have HZ:=Aa hz;have cN:=Aa bL;clear hz bL;have aK:=Aa (aF.o.later E5))|(refine Cm bp _ _ _ bp wR.heap.size 22 (.slice none 0 0) 1 24 Tryz.underlying37 BR rfl ae (.slice ra (DZ n S b x).length rc) (DZ n S b x).length vals bp (Ai aK.o.rvo ((Ex.refl w5).alloc _)) _ 1 [.slice za n zc] bp (Sl.own (Fl w5 (.slice za n zc) 22)) aj ai ac (Nat.le_trans aK.o.ex.size ag) ?_;intro v6 w6 aD bK bM;have bR:=Aa (show Bt w5 w6 wR.heap.size 22 1 (.slice ra (DZ n S b x).length rc) v6 (DZ n S b x).length vals [.slice za n zc] from⟨aD,⟨_,bK⟩,by simpa using bM,aK.o.rvo⟩);obtain⟨k1,k2⟩:=aK.o.atRep bR.o;obtain⟨va,vc6,bY⟩:=Ae aD;subst bY;clear aD bK bM)))
      all_goals
       have cJ:=Aa (show SI w5 (q :: bU) (.slice za n zc) (li n (Fa n S b x)) from⟨by rw[cM.o];exact HZ.o,fun _ B e=>by
        obtain⟨b',o',bW,cD,_⟩:=Eo HZ.o aP;subst bW;injection e with e;have e:b'=B:=e;subst e;refine⟨fun hm=>?_,cD⟩;have hl:b'=q∨wR.heap.size<=b'/\b'<wo.heap.size:=by
         rcases List.mem_cons.1 hm with e|e
         .exact .inl e
         .exact .inr (aF.o.lo b' e)
        have hqw:=bA.o;have hql:=aF.o.ql;have hws:=aF.o.ex.size;have hea:=EA.o.size;rcases cN.o with h1|⟨g,cap',h1,h2⟩
        .injection h1 with h1 _ _;injection h1 with h1;injection h1 with h1;have:=cI.o;omega
        .injection h1 with h1 _ _;injection h1 with h1;injection h1 with h1;have h2:wo.heap.size<=g:=h2;omega⟩)
       have aZ:=Aa (aK.o.appRep cJ.o bR.o);clear k1 k2 c2 bN cE;go_wp2_with fail
       go_roundw
       case rel=>
        obtain⟨aI,h1⟩:=aZ.o
        first
                | exact⟨x+1,_,_,_,aI,ac,by go_num,by rw[bQ.o,aQ.o];exact Aa h1.1⟩
                | ((repeat apply Exists.intro);exact⟨⟨x+1,_,_,_,aI,ac,by go_num,by rw[bQ.o,aQ.o];exact Aa h1.1⟩,rfl⟩)
       case measure=>simp[intOf];omega
    .obtain rfl:x=n:=by omega
     have aC:=Aa aG.o;obtain⟨oa,oc,aV⟩:=Ae aC.o.ovo;subst aV;have c1:=aC.o.lc1;have hcl:(Ce x S b).length<=64:=by have:=cO.o;omega
     have aY:=Aa aC.o.ex.size;by_cases h1:1<(CO (Bn S b x)).length
     .have aO:=Aa (show Ce x S (b+1)=Ce x S b ++ [⟨b,CO (Bn S b x),DZ x S b x⟩] from by
       rw[MV,if_pos (show 1<(Fp x S b).orb.length from h1)];rfl)
      have b1:decide (1<((CO (Bn S b x)).length:Int))=true:=aq;have b2:decide (1<(CO (Bn S b x)).length)=true:=bt;obtain⟨la,lc,aH⟩:=Ae aC.o.ch.own;obtain⟨ra,rc,aT⟩:=Ae aC.o.rvo;subst aH aT;have l0:=aC.o.lc0;have l2:=aC.o.lc2;have o1:=aC.o.oc1;clear h1 aG;go_wp2_with (at_builtin;refine Al _ rfl _ _ 41 rfl wR.heap.size 90 (.agg #[.int .i64 0,.slice none 0 0,.slice none 0 0]) 3 56 Tryz.underlying41 Um rfl ae _ (Ce x S b).length _ rfl aC.o.ch.own [.int .i64 b,.slice oa (CO (Bn S b x)).length oc,.slice ra (DZ x S b x).length rc] 90 _ rfl ag rfl aj ai ac aY.o ?_)
      intro lv2 w4 aB;obtain⟨la2,lc2,aW⟩:=Ae aB.own;subst aW;obtain⟨e1,e2⟩:=aC.o.atLev aB;have HK:=Aa (aC.o.keep aB);clear aB l0 l2 o1 c1;go_wp2_with fail
      go_roundw
      case rel=>
       obtain⟨aI,h1⟩:=HK.o
       first
              | exact⟨b+1,_,_,aI,ac,by go_num,by rw[aO.o];exact Aa h1⟩
              | ((repeat apply Exists.intro);exact⟨⟨b+1,_,_,aI,ac,by go_num,by rw[aO.o];exact Aa h1⟩,rfl⟩)
      case measure=>simp[intOf];omega
     .have aO:=Aa (show Ce x S (b+1)=Ce x S b from by
       rw[MV,if_neg (show ¬1<(Fp x S b).orb.length from h1),List.append_nil])
      have b1:decide (1<((CO (Bn S b x)).length:Int))=false:=aq;have b2:decide (1<(CO (Bn S b x)).length)=false:=bt;have HK:=Aa aG.o.drop;clear h1 aG;go_wp2_with fail
      go_roundw
      case rel=>first|exact⟨b+1,lv,os,mb,ac,by go_num,by rw[aO.o];exact HK⟩|((repeat apply Exists.intro);exact⟨⟨b+1,lv,os,mb,ac,by go_num,by rw[aO.o];exact HK⟩,rfl⟩)
      case measure=>simp[intOf];omega
  .obtain rfl:b=n:=by omega
   have o0:=aE.o.oc0;have o1:=aE.o.oc1;obtain⟨la,lc,aH⟩:=Ae aE.o.ch.own;subst aH;have q0:=aE.o.ex.cell Q0.o;have q1:=aE.o.ex.cell Q1.o;have aS:=aE.o.ex.frz Q0.o cH.o;have aR:=aE.o.ex.frz Q1.o cG.o;have aN:=Aa aE.o;clear aE;go_wp2_with fail
   exact bodyPost_ret (v:= .agg #[.int .i64 b,.slice la (Ce b S b).length lc]) (by simp[results,Tryz.results175,go_sem,q0,q1]) rfl ⟨_,rfl,aN.o.o _ _,((EA.o.trans aN.o.ex).setCell (p:=⟨q,0,none⟩) bA.o _).setCell (p:=⟨q,1,none⟩) bA.o _⟩
end Go.Proofs.YtehieobniamagaaGreat
