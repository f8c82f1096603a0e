/- Walks of the reference of the package field: divides. -/
import Derived.Test.YtehieobniamagaaGreatZa05
namespace Go.Proofs.YtehieobniamagaaGreat
open Go.RowKit
set_option linter.all false
set_option maxRecDepth 100000
set_option maxHeartbeats 4000000
def Kb(ml:List Int):Vc:=fun j=>if j<ml.length then ml.getD j 0 else if j=ml.length then 1 else 0
def NZ(p d:Nat)(low:Vc)(ml:List Int):Bool:=(List.range d).all fun j=>ap d low (ml.length+1) (Kb ml) Av j%(p:Int)==0
def Y9(p d:Nat)(low:Vc)(i j:Nat)(c0 c:Vc):Prop:=Ci p (fun t=>ap d low i c Av t) (fun t=>ap d low i c0 Av t-c0 i*DR d low (i-d) (ap d low j low Av) t)
theorem XS{p d:Nat}{low:Vc}{ml:List Int}{c:Vc}(hc:∀j,0<=c j/\c j<p)(h:Ci p (ap d low d c Av) (ap d low (ml.length+1) (Kb ml) Av)):
  NZ p d low ml=(List.range d).all fun j=>c j==0:=by
 unfold NZ;rw[Bool.eq_iff_iff,List.all_eq_true,List.all_eq_true];have aA:∀j,j<d->ap d low (ml.length+1) (Kb ml) Av j%(p:Int)=c j:=fun j hj=>by
  rw[<-h j,MI d c (Nat.le_refl _)];dsimp only;rw[if_pos hj];exact Int.emod_eq_of_lt (hc j).1 (hc j).2
 constructor
 .intro h1 j hj;have:=h1 j hj
  rwa[aA j (List.mem_range.1 hj)]at this
 .intro h1 j hj;have:=h1 j hj
  rwa[aA j (List.mem_range.1 hj)]
theorem Tf(ml:List Int):Al ml ++ [.int .i64 1]=vs (ml.length+1) (iv (Kb ml)):=by
 apply List.ext_getElem?;intro j;by_cases h1:j<ml.length
 .rw[List.getElem?_append_left (by rw[AS];exact h1),DF ac];unfold iv Kb;rw[if_pos h1];simp[Al,h1,List.getD_eq_getElem?_getD]
 .rw[List.getElem?_append_right (by rw[AS];omega),AS];by_cases h2:j=ml.length
  .subst h2;rw[DF ac];unfold iv Kb;simp
  .rw[show(vs (ml.length+1) (iv (Kb ml)))[j]?=none by rw[List.getElem?_eq_none_iff,Bu];omega];rw[List.getElem?_eq_none_iff];simp;omega
theorem zcK{P:Prop}(h:P:=by
 intro u hu;obtain⟨z,_,rfl⟩:=List.mem_map.1 hu;rfl):P:=h
theorem zcM{P:Prop}(h:P:=by
 go_wp2_with fail
 go_ret;exact⟨Ao HF.o.symm,hx⟩):P:=h
theorem N4(p d:Nat)(low:Vc)(ml:List Int)(lv mv:Value)(w:World)(hp:2<=p)(hp':p<=256)(hd:1<=d)(hdm:d<=ml.length)(hm8:ml.length<=8)
  (bF:Aj w lv (il d low)) (bG:∀j,0<=low j/\low j<p) (bC:Aj w mv ml) (bD:∀x∈ml,0<=x/\x<p):
  Calls Tryz.prog 170 #[lv,mv,.int .i64 p] w fun r w'=>r= .returned (.bool (NZ p d low ml))/\Ex w w':=by
 obtain⟨la,lc,rfl,l1,l2,l3⟩:=bF.open;rw[Am]at *;obtain⟨lb,lo,rfl,l4⟩:=l3 ac;have L4:=Aa (fun j (hj:j<d)=>l4 j _ (AM hj low));have cA:=Aa bC;have aY:=Aa (show ∀j,0<=Kb ml j/\Kb ml j<p from fun j=>by
  unfold Kb;split
  .rename_i h;rw[List.getD_eq_getElem?_getD,List.getElem?_eq_getElem h];exact bD _ (List.getElem_mem h)
  .split <;> omega)
 have bP:=Aa (fun c h1 h2=>XS (p:=p) (d:=d) (low:=low) (ml:=ml) (c:=c) h1 h2);have cB:=Aa (Tf ml);have cC:=Aa bG;have bE:∀u∈Al ml,u.oneCell'=true:=by
  exact zcK
 have bZ:=Aa bE;unfold maxLen at l2;clear bF bC bD l3 l4 bG bE;go_enter Tryz.func170,Tryz.ntmps170
 go_wp2_with (at_builtin;refine A8 _ rfl _ _ 22 rfl w.heap.size 3 (.int .i64 0) 1 8 Tryz.underlying22 Au rfl ae _ 0 [] rfl (Bn w 3) mv ml.length (Al ml) rfl (cA.o.ex ((Ex.refl w).alloc _)) bZ.o ai ac ag ?_)
 intro v1 w1 aC bH bJ;have aM:Ex w w1:=Ex.grown ((Ex.refl w).alloc _) (Bn w 3) (Nat.le_refl _) bH;obtain⟨va,vc,rfl⟩:=Ab aC;have bK:=Aa aM;have bN:=Aa aC;have bQ:=Aa aM.size;clear bH bJ aC aM;go_wp2_with (at_builtin;refine Ak _ rfl _ _ 22 rfl w.heap.size 3 (.int .i64 0) 1 8 Tryz.underlying22 Au rfl ae _ ml.length _ rfl bN.o [.int .i64 1] 3 _ rfl ag rfl aj ai ac bQ.o ?_)
 intro v2 w2 aF;have aB:=aF.own;rw[cB.o]at aB;obtain⟨g,cap,rfl,aD⟩:=LT aB ac;have aZ:=aF.ex bK.o (Nat.le_refl _);have aQ:=aD.caps;obtain⟨k1,k2⟩:=aQ;unfold maxLen at k2;obtain⟨bM,aJ,aU,aV,aW,bW⟩:=To aD (show ∀j,ml.length+1<=j->j<ml.length+1->Kb ml j=0 from fun j a b=>ac) (show ∀(a:Nat) (c:Nat->Int),Y9 p d low a 0 c c from fun a c=>Rk (m:=d) (low:=low) p c) (show ∀(a j:Nat) (c c0:Nat->Int),d<=a->j<d->Y9 p d low a j c0 c->c a=c0 a->Y9 p d low a (j+1) c0 (I5 c (a-d+j) ((c (a-d+j)+((p:Int)-c a)*low j)%(p:Int))) from fun a j c c0 h1 h2 h3 h4=>SQ (m:=d) (low:=low) (T:=c0) h1 h2 h3 h4) (show ∀(a:Nat) (c c0:Nat->Int) (T:Vc),d<=a->Ci p (ap d low (a+1) c0 Av) T->Y9 p d low a d c0 c->Ci p (ap d low a c Av) T from fun a c c0 T h1 h2 h3=>Vk (m:=d) (low:=low) hd h1 h2 h3) (show ∀(a:Nat) (c:Nat->Int) v,ap d low a (I5 c a v) Av=ap d low a c Av from fun a c v=>Ld (Nat.le_refl _));obtain⟨T,aR⟩:=nA (ap d low (ml.length+1) (Kb ml) Av);rw[aR]at bP;have bO:=Aa (show Ci p (ap d low (ml.length+1) (Kb ml) Av) T by rw[aR];exact Ci.refl _ _);clear aR;clear aF aB aD bK bN bQ;go_wp2_with fail
 go_loopw [9,10,11] (fun i' _ _ wr=>∃(a:Nat) (c:Nat->Int),d<=a/\a<=ml.length+1/\i'= .int .i64 ((a:Int)-1)/\Hia (AO wr w.heap.size 3 g (ml.length+1) cap (iv c))/\Hia (∀j,0<=c j/\c j<p)/\Hia (Ci p (ap d low a c Av) T)/\Hia (∀j,a<=j->j<ml.length+1->c j=0)/\Ex w wr) (fun i' _ _ _=>(intOf i'+1).toNat)
 case atStart=>exact⟨ml.length+1,Kb ml,ac,ac,by go_num,bM,aY,bO,aJ,aZ⟩
 case round=>
  clear bM bO aJ aZ;obtain⟨a,c,bJ,ha2,rfl,aA,aP,hT,hz,hx⟩:=hrel;by_cases hai:d<a
  .obtain⟨b,rfl⟩:∃b,a=b+1:=⟨a-1,ac⟩;have eb:(((b+1:Nat)):Int)-1=b:=by omega
   rw[eb];have aO:d<=b:=ac;have hdb':(d:Int)<=(b:Int):=ac;have bI:b<ml.length+1:=ac;have aN:wr.cell? ⟨g,b,none⟩=some (.int .i64 (c b)):=aA.o.cell bI;clear eb hai;obtain⟨wo,rfl⟩:∃wo:World,wo=wr:=⟨_,rfl⟩;have bL:=Aa (aU.o b c);go_wp2_with fail
   clear aN
   go_loopw [11] (fun j' wr=>∃(j:Nat) (c':Nat->Int),j<=d/\j'= .int .i64 j/\Hia (AO wr w.heap.size 3 g (ml.length+1) cap (iv c'))/\Hia (∀j,0<=c' j/\c' j<p)/\Hia (Y9 p d low b j c c')/\Hia (∀l,b<=l->c' l=c l)/\Ex w wr) (fun j' _=>d-(intOf j').toNat)
   case atStart=>exact⟨0,c,ac,rfl,aA,aP,bL,Aa (fun l _=>rfl),hx⟩
   case round=>
    clear aA hx bL;obtain⟨j,c',hj,rfl,aA,aE,bB,aL,hx⟩:=hrel;by_cases hlj:j<d
    .have hlw:=hx.cell (L4.o j hlj);have aG:=Aa (aV.o b j c' c aO hlj bB.o (aL.o b (Nat.le_refl _)));have bT:b-d+j<ml.length+1:=by omega
     have bS:b-d+j<b:=ac;have hvj:wr.cell? ⟨g,b-d+j,none⟩=some (.int .i64 (c' (b-d+j))):=aA.o.cell bT;have bR:=aA.o.frz (b-d+j);have aH:=aL.o b (Nat.le_refl _);rw[aH]at aG;obtain⟨u1,u2⟩:=aP.o b;obtain⟨v1,v2⟩:=aE.o (b-d+j);obtain⟨q1,q2⟩:=cC.o j;obtain⟨D,hD⟩:=nA ((c' (b-d+j)+((p:Int)-c b)*low j)%(p:Int));have bV:0<=D/\D<p:=by rw[<-hD];exact⟨Int.emod_nonneg _ ac,Int.emod_lt_of_pos _ ac⟩
     rw[hD]at aG;have aT:=Aa (aA.o.set (b-d+j) (.int .i64 D));have aS:=Aa (aA.o.exSet (Nat.le_refl _) hx (b-d+j) (.int .i64 D));have aX:=Aa (show ∀l,0<=Ax c' (b-d+j) D l/\Ax c' (b-d+j) D l<p from fun l=>by
      unfold Ax;split
      .exact bV
      .exact aE.o l)
     have cD:=Aa (show ∀l,b<=l->Ax c' (b-d+j) D l=c l from fun l hl=>by rw[Ae _ _ ac];exact aL.o l hl);generalize low j=lj at *;generalize c b=cb at *;have e3:0<=((p:Int)-cb)*lj:=Int.mul_nonneg ac q1;have e4:((p:Int)-cb)*lj<=65536:=by
      have:=Int.mul_le_mul (show(p:Int)-cb<=256 by omega) (show lj<=256 by omega) q1 ac;omega
     have i1:IntKind.i64.wrap ((b:Int)-d)=(b:Int)-d:=IntWalk.i64_in _ ac;have i2:IntKind.i64.wrap ((b:Int)-d+j)=(b:Int)-d+j:=IntWalk.i64_in _ ac;have i3:IntKind.i64.wrap ((p:Int)-cb)=(p:Int)-cb:=IntWalk.i64_in _ ac;have i4:IntKind.i64.wrap (((p:Int)-cb)*lj)=((p:Int)-cb)*lj:=IntWalk.i64_in _ ac;have i5:IntKind.i64.wrap (c' (b-d+j)+((p:Int)-cb)*lj)=c' (b-d+j)+((p:Int)-cb)*lj:=IntWalk.i64_in _ ac;have i6:(c' (b-d+j)+((p:Int)-cb)*lj).tmod (p:Int)=D:=by rw[Int.tmod_eq_emod_of_nonneg ac];exact hD
     have i7:((b:Int)-d+j).toNat=b-d+j:=ac;have i8:0<=(b:Int)-d+j:=ac;have i9:(b:Int)-d+j<(ml.length:Int)+1:=ac;have p0:¬p=0:=ac;clear hD bS aH;go_wp2_with fail
     go_still_tail 26,ah
     change wpList _ _ _ _ _ wr.drew
     go_wp2_with fail
     go_roundw
     case rel=>exact⟨j+1,Ax c' (b-d+j) D,ac,by go_num,Aa (by have:=aT.o.drew;rwa[CN]at this),aX,aG,cD,aS.o.drew⟩
     case measure=>simp[intOf];omega
    .obtain rfl:j=d:=by omega
     have bY:=Aa (aW.o b c' c _ aO hT.o bB.o);have bR:=aA.o.frz b;have hvb:=aA.o.cell bI;have aT:=Aa (aA.o.set b (.int .i64 0));have aS:=Aa (aA.o.exSet (Nat.le_refl _) hx b (.int .i64 0));have aX:=Aa (show ∀l,0<=Ax c' b 0 l/\Ax c' b 0 l<p from fun l=>by
      unfold Ax;split
      .omega
      .exact aE.o l)
     have bX:=Aa (show Ci p (ap j low b (Ax c' b 0) Av) T from by
      have e:=bW.o b c' 0;show Ci p (ap j low b (I5 c' b 0) Av) T
      rw[e];exact bY.o)
     have HZ:=Aa (show ∀l,b<=l->l<ml.length+1->Ax c' b 0 l=0 from fun l h1 h2=>by
      by_cases e:l=b
      .subst e;exact Ad _ _ _
      .rw[Ae _ _ e,aL.o l h1];exact hz.o l ac h2)
     go_wp2_with fail
     go_roundw
     case rel=>exact⟨b,Ax c' b 0,aO,ac,rfl,Aa (by have:=aT.o;rwa[CN]at this),aX,bX,HZ,aS.o⟩
     case measure=>simp[intOf]
  .obtain rfl:a=d:=by omega
   have aK:=Aa (bP.o c aP.o hT.o);go_wp2_with fail
   go_loopw [12] (fun i' wr=>∃i:Nat,i<=ml.length+1/\i'= .int .i64 i/\Hia (∀j,j<i->c j=0)/\Hia (AO wr w.heap.size 3 g (ml.length+1) cap (iv c))/\Ex w wr) (fun i' _=>ml.length+1-(intOf i').toNat)
   case atStart=>exact⟨0,ac,rfl,Aa (fun j h=>ac),aA,hx⟩
   case round=>
    clear aA hx;obtain⟨i,hi,rfl,aI,aA,hx⟩:=hrel;by_cases hlt:i<ml.length+1
    .have bA:wr.cell? ⟨g,i,none⟩=some (.int .i64 (c i)):=aA.o.cell hlt;by_cases h0:c i=0
     .have hvi':wr.cell? ⟨g,i,none⟩=some (.int .i64 0):=by rw[bA,h0]
      have HA:=Aa (show ∀j,j<i+1->c j=0 from fun j hj=>by
       by_cases e:j=i
       .subst e;exact h0
       .exact aI.o j ac)
      clear bA h0;go_wp2_with fail
      go_roundw
      case rel=>exact⟨i+1,ac,by go_num,HA,aA,hx⟩
      case measure=>simp[intOf];omega
     .have hb:((c i)==0)=false:=by simpa using h0
      have bU:i<a:=by
       rcases Nat.lt_or_ge i a with e|e
       .exact e
       .exact absurd (hz.o i e hlt) h0
      have HF:=Aa (show NZ p a low ml=false by
       rw[aK.o,List.all_eq_false];exact⟨i,List.mem_range.2 bU,by simpa using h0⟩)
      clear h0;generalize c i=ci at *;exact zcM
    .have HF:=Aa (show NZ p a low ml=true by
      rw[aK.o,List.all_eq_true];intro j hj;have:=aI.o j (by have:=List.mem_range.1 hj;omega);simp[this])
     exact zcM
def UK(p:Nat)(ml:List Int):Bool:=(List.range (ml.length/2)).all fun d=>(List.range (p^(d+1))).all fun v=> !NZ p (d+1) (Bt p (d+1) v) ml
theorem TE{p:Nat}{ml:List Int}{d v:Nat}(h1:2*(d+1)<=ml.length)(h2:v<p^(d+1))(h3:NZ p (d+1) (Bt p (d+1) v) ml=true):UK p ml=false:=by
 unfold UK;rw[List.all_eq_false];refine⟨d,List.mem_range.2 ac,?_⟩;rw[Bool.not_eq_true,List.all_eq_false];exact⟨v,List.mem_range.2 h2,by simp[h3]⟩
theorem Qs{p:Nat}{ml:List Int}(h:∀d v,2*(d+1)<=ml.length->v<p^(d+1)->NZ p (d+1) (Bt p (d+1) v) ml=false):UK p ml=true:=by
 unfold UK;rw[List.all_eq_true];intro d hd;rw[List.all_eq_true];intro v hv;rw[h d v (by have:=List.mem_range.1 hd;omega) (List.mem_range.1 hv)];rfl
theorem It(p:Nat)(ml:List Int)(mv:Value)(w:World)(hp:2<=p)(aO:p<=256)(aP:ml.length<=8)(hq:p^ml.length<=256)(aG:Aj w mv ml)(aM:∀x∈ml,0<=x/\x<p):
  Calls Tryz.prog 119 #[mv,.int .i64 p] w fun r w'=>r= .returned (.bool (UK p ml))/\Ex w w':=by
 obtain⟨aV,aW,aU,aI,aN,aT⟩:=To aG (fun d v lv w' h1 h2 h3 h4=>N4 p d (Bt p d v) ml lv mv w' hp aO h1 h2 aP h3 (FQ ac d v) h4 aM) (fun d v h1 h2 h3=>TE (p:=p) (ml:=ml) (d:=d) (v:=v) h1 h2 h3) (fun h=>Qs (p:=p) (ml:=ml) h) (show ∀d,d<=ml.length->p^d<=256 from fun d hd=>Nat.le_trans (Nat.pow_le_pow_right ac hd) hq) (fun d=>Nat.pow_succ p d);obtain⟨ma,mc,rfl,m1,m2,m3⟩:=aG.open;unfold maxLen at m2;clear aG aM m3 hq;go_enter Tryz.func119,Tryz.ntmps119
 go_wp2_with fail
 go_loopw [5,6,7] (fun c' d' _ wr=>∃d:Nat,2*d<=ml.length/\d'= .int .i64 ((d:Int)+1)/\c'= .int .i64 ((p^d:Nat):Int)/\Hia (∀e v,e<d->v<p^(e+1)->NZ p (e+1) (Bt p (e+1) v) ml=false)/\Ex w wr) (fun _ d' _ _=>10-(intOf d').toNat)
 case atStart=>exact⟨0,ac,rfl,ag,Aa (fun e v h=>ac),Ex.refl _⟩
 case round=>
  obtain⟨d,hd,rfl,rfl,aD,hx⟩:=hrel;have hpd:=aN.o d ac;have hpp:1<=p^d:=Nat.pow_pos ac;have aK:=Aa (aT.o d);by_cases hlt:2*(d+1)<=ml.length
  .have aC:=aN.o (d+1) ac;rw[aK.o]at aC;have aA:((p^d:Nat):Int)*(p:Int)=((p^d*p:Nat):Int):=by simp
   have hm1:0<=((p^d:Nat):Int)*(p:Int):=by rw[aA];omega
   have hm2:((p^d:Nat):Int)*(p:Int)<=256:=by rw[aA];omega
   obtain⟨n,hn⟩:=nA (p^d*p);rw[hn]at aA aC;have HC:=Aa aA;have aQ:2*((d:Int)+1)<=(ml.length:Int):=ac;have aJ:=Aa (show p^(d+1)=n by rw[aK.o,hn]);clear aA hn aK;generalize p^d=pd at *;obtain⟨wo,rfl⟩:∃wo:World,wo=wr:=⟨_,rfl⟩;go_wp2_with fail
   rw[HC.o]
   go_loopw [7] (fun v' wr=>∃v:Nat,v<=n/\v'= .int .i64 v/\Hia (∀u,u<v->NZ p (d+1) (Bt p (d+1) u) ml=false)/\Ex w wr) (fun v' _=>n-(intOf v').toNat)
   case atStart=>exact⟨0,ac,rfl,Aa (fun u h=>ac),hx⟩
   case round=>
    clear hx;obtain⟨v,hv,rfl,aE,hx⟩:=hrel;by_cases hlv:v<n
    .have aS:=Aa (fun w'=>by
      have h:=Nn v p (d+1) w' ac ac ac ac;rw[show((d+1:Nat):Int)=(d:Int)+1 by omega]at h;exact h)
     have aH:(v:Int)<(n:Int):=ac;go_wp2_with fail
     (with_reducible refine(aS.o _).mono ?_)
     rintro e w2⟨lv,rfl,⟨g,rfl,hg1,aR⟩,aF⟩;go_wp2_with fail
     refine(aW.o (d+1) v _ _ ac ac aR.isl (aV.o.ex (hx.trans aF))).mono ?_;rintro e w3⟨rfl,aL⟩;by_cases hdv:NZ p (d+1) (Bt p (d+1) v) ml=true
     .have HF:=Aa (aU.o d v hlt (by rw[aJ.o];exact hlv) hdv);rw[hdv];clear hdv;go_wp2_with fail
      go_ret;exact⟨Ao HF.o.symm,(hx.trans aF).trans aL⟩
     .have aB:NZ p (d+1) (Bt p (d+1) v) ml=false:=by simpa using hdv
      rw[aB];have HA:=Aa (show ∀u,u<v+1->NZ p (d+1) (Bt p (d+1) u) ml=false from fun u hu=>by
       by_cases e:u=v
       .subst e;exact aB
       .exact aE.o u ac)
      clear hdv aB;go_wp2_with fail
      go_roundw
      case rel=>exact⟨v+1,ac,by go_num,HA,(hx.trans aF).trans aL⟩
      case measure=>simp[intOf];omega
    .have aH:(n:Int)<=(v:Int):=by omega
     have HA:=Aa (show ∀e u,e<d+1->u<p^(e+1)->NZ p (e+1) (Bt p (e+1) u) ml=false from fun e u he hu=>by
      by_cases h:e=d
      .subst h;exact aE.o u (by rw[aJ.o]at hu;omega)
      .exact aD.o e u ac hu)
     go_wp2_with fail
     go_roundw
     case rel=>exact⟨d+1,hlt,by go_num,by rw[aJ.o],HA,hx⟩
     case measure=>simp[intOf];omega
  .have HF:=Aa (aI.o fun e v h1 h2=>aD.o e v ac h2);have aQ:¬2*((d:Int)+1)<=(ml.length:Int):=by omega
   generalize p^d=pd at *;exact zcM
def BY(p m:Int)(ml:List Int):Int:=if (Jb p m ml&&(decide (m=1)||UK p.toNat ml))=true then 0 else 1
theorem QU{p m:Int}{ml:List Int}(h:Jb p m ml=false):BY p m ml=1:=by unfold BY;rw[h];rfl
theorem za4{P:Prop}(h:P:=by
 go_enter Tryz.func59,Tryz.ntmps59
 have d0:=D0.o;have d1:=D1.o;have d2:=D2.o;go_wp2_with fail
 generalize w.alloc (.cells #[.int .i64 pn,.int .i64 mn,.slice ma ml.length mc] 24)=w1 at *;clear D0 D1 D2;refine(aH.o _).mono ?_;rintro e w2⟨rfl,aA⟩;have r0:=aA.cell d0;have r1:=aA.cell d1;have r2:=aA.cell d2;go_wp2_with fail
 refine(aJ.o _).mono ?_;rintro e w3⟨rfl,rfl⟩;go_wp2_with fail
 go_ret;exact⟨Ag HC.o.symm,e0.trans aA⟩):P:=h
theorem zbK{P:Prop}(h:P:=by
 go_wp2_with fail
 go_quiet (fail)
 go_wp2_with fail
 go_ret;exact⟨Ag HF.o.symm,e0.trans (hx.drewN _)⟩):P:=h
theorem zcp{P:Prop}(h:P:=by
 go_wp2_with fail
 go_ret;exact⟨Ag HC.o.symm,(e0.trans hx).trans aS⟩):P:=h
theorem O3(p m:Int)(ml:List Int)(mv:Value)(w:World)(aN:Aj w mv ml):
  Calls Tryz.prog 59 #[.agg #[.int .i64 p,.int .i64 m,mv]] w fun r w'=>r= .returned (.int .i64 (BY p m ml))/\Ex w w':=by
 obtain⟨d0,d1,d2,e0,_⟩:=Bc w p m mv;have aR:=Aa (show Jb p m ml=(decide (CJ p m≠0)&&(Hg p.toNat&&if m=1 then ml.length==0 else ml.length==m.toNat&&ml.all fun x=>decide (0<=x)&&decide (x<p))) from rfl);have aZ:=Aa aN;obtain⟨ma,mc,rfl,m1,m2,m3⟩:=(aN.ex e0).open;have M3:=Aa m3;have Dz:=fun w=>Gg p m (.slice ma ml.length mc) w;have aC:=Aa (fun h=>QU (p:=p) (m:=m) (ml:=ml) h);unfold maxLen at m2;clear aN m3;have D0:=Aa d0;have D1:=Aa d1;have D2:=Aa d2;clear d0 d1 d2;by_cases ho:CJ p m=0
 .have HC:=Aa (aC.o (by rw[aR.o,ho];rfl));rw[ho]at Dz;have aH:=Aa Dz;clear ho Dz;go_enter Tryz.func59,Tryz.ntmps59
  have d0:=D0.o;have d1:=D1.o;have d2:=D2.o;go_wp2_with fail
  generalize w.alloc (.cells #[.int .i64 p,.int .i64 m,.slice ma ml.length mc] 24)=w1 at *;clear D0 D1 D2;refine(aH.o _).mono ?_;rintro e w2⟨rfl,aA⟩;have r0:=aA.cell d0;have r1:=aA.cell d1;have r2:=aA.cell d2;go_wp2_with fail
  go_ret;exact⟨Ag HC.o.symm,e0.trans aA⟩
 .obtain⟨pn,mn,rfl,rfl,p2,q1,q8,qq,aT⟩:=LW ho;have hpw:1<=pn^mn:=Nat.pow_pos ac;have aE:pn<=256:=by
   exact zb0
  have hb0:(((pn^mn:Nat):Int)==0)=false:=by rw[beq_eq_false_iff_ne];omega
  have aB:=Aa (show Jb pn mn ml=(Hg pn&&if (mn:Int)=1 then ml.length==0 else ml.length==mn&&ml.all fun x=>decide (0<=x)&&decide (x<pn)) by
   rw[aR.o,decide_eq_true ho];simp)
  have aI:=fun w=>OV pn w p2 aE;have HQQ:=Aa qq;have aY:=Aa (show ∀n,n=mn->pn^n<=256 from fun n h=>by rw[h];exact qq);rw[aT]at Dz;have aH:=Aa Dz;clear Dz;generalize pn^mn=qn at *;clear ho aT aR;by_cases hpr:Hg pn=true
  .rw[hpr]at aB aI;have aJ:=Aa aI;clear aI hpr;by_cases hm1:mn=1
   .have aO:((mn:Int)==1)=true:=by simp;omega
    by_cases hl:ml.length=0
    .have HC:=Aa (show BY pn mn ml=0 by
      unfold BY;rw[aB.o,if_pos (show(mn:Int)=1 by omega),hl,decide_eq_true (show(mn:Int)=1 by omega)];rfl)
     have aX:((ml.length:Int) !=0)=false:=by rw[bne_eq_false_iff_eq];omega
     have aQ:((ml.length:Int)==0)=true:=by rw[beq_iff_eq];omega
     clear hm1 aB hl;exact za4
    .have HC:=Aa (aC.o (by rw[aB.o,if_pos (show(mn:Int)=1 by omega),Bool.true_and,beq_eq_false_iff_ne];exact hl));have aX:((ml.length:Int) !=0)=true:=by rw[bne_iff_ne];omega
     have aQ:((ml.length:Int)==0)=false:=by rw[beq_eq_false_iff_ne];omega
     clear hm1 aB hl;exact za4
   .have aO:((mn:Int)==1)=false:=by simp;omega
    have HR:=Aa (show Jb pn mn ml=(ml.length==mn&&ml.all fun x=>decide (0<=x)&&decide (x<pn)) by rw[aB.o,if_neg ac,Bool.true_and]);have bA:=Aa hm1;clear hm1 aB;by_cases hlen:ml.length=mn
    .have aW:((ml.length:Int)==(mn:Int))=true:=by rw[beq_iff_eq];omega
     have aV:((ml.length:Int) !=(mn:Int))=false:=by rw[bne_eq_false_iff_eq];omega
     have aU:=Aa (show Jb pn mn ml=ml.all fun x=>decide (0<=x)&&decide (x<pn) by rw[HR.o,show(ml.length==mn)=true by simp[hlen],Bool.true_and]);have aD:=Aa hlen;clear hlen HR;go_enter Tryz.func59,Tryz.ntmps59
     have d0:=D0.o;have d1:=D1.o;have d2:=D2.o;go_wp2_with fail
     generalize w.alloc (.cells #[.int .i64 pn,.int .i64 mn,.slice ma ml.length mc] 24)=w1 at *;clear D0 D1 D2;refine(aH.o _).mono ?_;rintro e w2⟨rfl,aA⟩;have r0:=aA.cell d0;have r1:=aA.cell d1;have r2:=aA.cell d2;go_wp2_with fail
     refine(aJ.o _).mono ?_;rintro e w3⟨rfl,rfl⟩;go_wp2_with fail
     clear r0 r1 r2
     go_loopw [3] (fun j' wr=>∃j:Nat,j<=ml.length/\j'= .int .i64 j/\Hia (∀i y,i<j->ml[i]?=some y->0<=y/\y<pn)/\Ex w1 wr) (fun j' _=>ml.length-(intOf j').toNat)
     case atStart=>exact⟨0,ac,rfl,Aa (fun i y h=>ac),aA⟩
     case round=>
      clear aA;obtain⟨j,hj,rfl,aM,hx⟩:=hrel;have r0:=hx.cell d0;have r1:=hx.cell d1;have r2:=hx.cell d2;by_cases hlt:j<ml.length
      .obtain⟨y,hy⟩:∃y,ml[j]?=some y:=⟨_,List.getElem?_eq_getElem hlt⟩;obtain⟨b,o,rfl,hc⟩:=M3.o ac;have c1:=hx.cell (hc j y hy);have aP:(j:Int)<(mn:Int):=by have:=aD.o;omega
       by_cases hy0:0<=y/\y<pn
       .have HA:=Aa (show ∀i z,i<j+1->ml[i]?=some z->0<=z/\z<pn from fun i z hi hz=>by
         by_cases e:i=j
         .subst e;rw[hy]at hz;injection hz with hz;subst hz;exact hy0
         .exact aM.o i z ac hz)
        obtain⟨y0,y1⟩:=hy0;have b1:decide (y<0)=false:=by simpa using y0
        have b2:decide ((pn:Int)<=y)=false:=by simpa using y1
        clear hc hy;go_wp2_with fail
        go_quiet (fail)
        go_wp2_with fail
        go_roundw
        case rel=>exact⟨j+1,ac,by go_num,HA,hx.drewN _⟩
        case measure=>simp[intOf];omega
       .have HF:=Aa (aC.o (by
         rw[aU.o,List.all_eq_false];refine⟨y,List.mem_of_getElem? hy,?_⟩;simpa using hy0))
        have aK:y<0∨(0<=y/\(pn:Int)<=y):=ac;clear hc hy hy0;rcases aK with aK|⟨aK,hy2⟩
        .have b1:decide (y<0)=true:=by simpa using aK
         exact zbK
        .have b1:decide (y<0)=false:=by simpa using aK
         have b2:decide ((pn:Int)<=y)=true:=by simpa using hy2
         exact zbK
      .obtain rfl:j=ml.length:=by omega
       have aG:∀y∈ml,0<=y/\y<pn:=fun y hy=>by
        obtain⟨i,hi,e⟩:=List.getElem_of_mem hy;exact aM.o i y hi ar
       have HT:=Aa (show BY pn mn ml=if UK pn ml=true then 0 else 1 by
        unfold BY;rw[aU.o,show(ml.all fun x=>decide (0<=x)&&decide (x<(pn:Int)))=true by
         rw[List.all_eq_true];intro y hy;simp[aG y hy],decide_eq_false (show ¬(mn:Int)=1 by have:=bA.o;omega)]
        simp)
       have bB:=Aa (fun (w':World) (h:Aj w' (.slice ma ml.length mc) ml)=>It pn ml (.slice ma ml.length mc) w' p2 aE (by have:=aD.o;omega) (aY.o _ aD.o) h aG);have aP:¬((ml.length:Int)<(mn:Int)):=by have:=aD.o;omega
       clear aG;go_wp2_with fail
       refine(bB.o _ (aZ.o.ex (e0.trans hx))).mono ?_;rintro e w4⟨rfl,aS⟩;by_cases hir:UK pn ml=true
       .have HC:=Aa (show BY pn mn ml=0 by rw[HT.o,if_pos hir]);rw[hir];clear hir;exact zcp
       .have HC:=Aa (show BY pn mn ml=1 by rw[HT.o,if_neg hir]);have aL:UK pn ml=false:=by simpa using hir
        rw[aL];clear hir aL;exact zcp
    .have aW:((ml.length:Int)==(mn:Int))=false:=by rw[beq_eq_false_iff_ne];omega
     have aV:((ml.length:Int) !=(mn:Int))=true:=by rw[bne_iff_ne];omega
     have HC:=Aa (aC.o (by rw[HR.o,show(ml.length==mn)=false by simp[hlen],Bool.false_and]));clear hlen HR;exact za4
  .have aF:Hg pn=false:=by simpa using hpr
   have HC:=Aa (aC.o (by rw[aB.o,aF];rfl));rw[aF]at aI;have aJ:=Aa aI;clear aI hpr aF aB;exact za4
end Go.Proofs.YtehieobniamagaaGreat
