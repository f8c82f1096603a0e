/- slices.Equal at Al, slices.EqualFunc at rows (as in Perm's PmS, PmPb); space.open, space.Check. -/
import Derived.Test.YtehieobniamagaaGreatZa13
namespace Go.Proofs.YtehieobniamagaaGreat
open Go.RowKit
set_option linter.all false
set_option maxRecDepth 100000
set_option maxHeartbeats 8000000
theorem Hv(w:World)(l k:List Int)(v u:Value)(hl:Aj w v l)(hk:Aj w u k):
  Calls Tryz.prog 101 #[v,u] w fun r w'=>r= .returned (.bool (decide (l=k)))/\∃n,w'=w.drewN n:=by
 obtain⟨a,cap,rfl,s1,s2,s3⟩:=hl.open;obtain⟨c,cc,rfl,t1,t2,t3⟩:=hk.open;have S3:=Aa s3;have T3:=Aa t3;unfold maxLen at s2 t2;clear hl hk s3 t3;by_cases hlk:l.length=k.length
 .have hb:((l.length:Int) !=(k.length:Int))=false:=by simp;omega
  have aD:=Aa hlk;clear hlk;go_enter Tryz.func101,Tryz.ntmps101
  go_wp2_with fail
  go_loopw [13] (fun i' wr=>∃i n:Nat,i<=l.length/\i'= .int .i64 i/\wr=w.drewN n/\Hia (∀j,j<i->l[j]?=k[j]?)) (fun i' _=>l.length-(intOf i').toNat)
  case atStart=>exact⟨0,0,ac,rfl,rfl,Aa (fun j hj=>ac)⟩
  case round=>
   exact zb3
 .have hb:((l.length:Int) !=(k.length:Int))=true:=by simp;omega
  have HN:=Aa (show ¬l=k from fun e=>hlk cj);clear hlk;go_enter Tryz.func101,Tryz.ntmps101
  exact zcn
theorem Dg(w:World)(l k:List (List Int))(v u:Value)(hl:BT w v l)(hk:BT w u k):
  Calls Tryz.prog 128 #[v,u,.func (.func 101) #[] #[]] w fun r w'=>r= .returned (.bool (decide (l=k)))/\∃n,w'=w.drewN n:=by
 obtain⟨a,cap,rfl,s1,s2,s3⟩:=hl.open;obtain⟨c,cc,rfl,t1,t2,t3⟩:=hk.open;have S3:=Aa s3;have T3:=Aa t3;unfold maxLen at s2 t2;clear hl hk s3 t3;by_cases hlk:l.length=k.length
 .have hb:((l.length:Int) !=(k.length:Int))=false:=by simp;omega
  have aI:=Aa hlk;clear hlk;go_enter Tryz.func128,Tryz.ntmps128
  go_wp2_with fail
  go_loopw [17] (fun i' wr=>∃i n:Nat,i<=l.length/\i'= .int .i64 i/\wr=w.drewN n/\Hia (∀j,j<i->l[j]?=k[j]?)) (fun i' _=>l.length-(intOf i').toNat)
  case atStart=>exact⟨0,0,ac,rfl,rfl,Aa (fun j hj=>ac)⟩
  case round=>
   obtain⟨i,n,hi,rfl,rfl,aC⟩:=hrel;by_cases hlt:i<l.length
   .obtain⟨x,hx⟩:∃x,l[i]?=some x:=⟨_,List.getElem?_eq_getElem hlt⟩;have aJ:i<k.length:=by have:=aI.o;omega
    obtain⟨y,hy⟩:∃y,k[i]?=some y:=⟨_,List.getElem?_eq_getElem aJ⟩;obtain⟨b,o,rfl,hc⟩:=S3.o ac;obtain⟨b2,o2,rfl,aG⟩:=T3.o ac;obtain⟨u1,e1,aF⟩:=hc i x hx;obtain⟨u2,e2,aE⟩:=aG i y hy;have c1:=((Ex.refl w).drewN n).cell e1;have c2:=((Ex.refl w).drewN n).cell e2;have aB:=aF.ex ((Ex.refl w).drewN n);have aA:=aE.ex ((Ex.refl w).drewN n);have i1:(0:Int)<=(i:Int):=db;have i2:(i:Int)<(l.length:Int):=ac;have i3:(i:Int)<(k.length:Int):=ac;obtain⟨W,hW⟩:=nA (w.drewN n);rw[hW]at c1 c2 aB aA ⊢;have aH:=Aa hW;have aD:=Aa (Hv W x y u1 u2 aB aA);obtain⟨ua,uc,rfl,_,_,_⟩:=aB.open;obtain⟨va,vc,rfl,_,_,_⟩:=aA.open;by_cases hxy:x=y
    .have HA:=Aa (show ∀j,j<i+1->l[j]?=k[j]? from fun j hj=>by
      by_cases e:j=i
      .subst e;rw[hx,hy,hxy]
      .exact aC.o j ac)
     rw[decide_eq_true hxy]at aD;clear hc aG hx hy hxy hW aF aE e1 e2 aB aA;go_wp2_with (go_at_call 101;refine aD.o.mono ?_;rintro e w5⟨rfl,n5,rfl⟩)
     exact zbx
    .have HN:=Aa (show ¬l=k from fun e=>hxy (by rw[e,hy]at hx;injection hx with hx;exact hx.symm));rw[decide_eq_false hxy]at aD;clear hc aG hx hy hxy hW aF aE e1 e2 aB aA;go_wp2_with (go_at_call 101;refine aD.o.mono ?_;rintro e w5⟨rfl,n5,rfl⟩)
     exact zb1
   .exact zaw
 .have hb:((l.length:Int) !=(k.length:Int))=true:=by simp;omega
  have HN:=Aa (show ¬l=k from fun e=>hlk cj);clear hlk;go_enter Tryz.func128,Tryz.ntmps128
  exact zcn
theorem D3(w:World)(c:Int)(v:Value):(w.alloc (.cells #[.int .i64 c,v] 137)).cell? ⟨w.heap.size,0,none⟩=some (.int .i64 c)/\(w.alloc (.cells #[.int .i64 c,v] 137)).cell? ⟨w.heap.size,1,none⟩=some v/\Ex w (w.alloc (.cells #[.int .i64 c,v] 137)):=⟨ag,ag,(Ex.refl _).alloc _⟩
def R0(p m:Int)(ml:List Int)(aA:Int)(rows:List (List Int))(e:Int):Prop:=
 (Dn p m ml aA rows≠0/\e=Dn p m ml aA rows)∨
 (Dn p m ml aA rows=0/\∃(pn mn N:Nat) (piv:List Nat) (a':Nat->Nat->Int),p=pn/\m=mn/\aA=N/\F5 p m ml/\BR (pn^mn) N rows=0/\OI pn mn ml N rows.length (AQ rows) a' piv/\e=if AL N piv.length a'=rows then 0 else 5)
structure Yt(w:World)(b:Nat):Prop where
 c0:w.cell? ⟨b,0,none⟩=some (.pointer none)
 c1:w.cell? ⟨b,1,none⟩=some (.int .i64 0)
 c2:w.cell? ⟨b,2,none⟩=some (.slice none 0 0)
 c3:w.cell? ⟨b,3,none⟩=some (.slice none 0 0)
 f0:w.frozen? ⟨b,0,none⟩=false
 f1:w.frozen? ⟨b,1,none⟩=false
 f2:w.frozen? ⟨b,2,none⟩=false
 f3:w.frozen? ⟨b,3,none⟩=false
theorem Yt.new(w:World):Yt (w.alloc (.cells #[.pointer none,.int .i64 0,.slice none 0 0,.slice none 0 0] 230)) w.heap.size:=⟨ag,ag,ag,ag,ag,ag,ag,ag⟩
theorem Yt.ex{w w':World}{b:Nat}(h:Yt w b)(hx:Ex w w'):Yt w' b:=⟨hx.cell h.c0,hx.cell h.c1,hx.cell h.c2,hx.cell h.c3,hx.frz h.c0 h.f0,hx.frz h.c1 h.f1,hx.frz h.c2 h.f2,hx.frz h.c3 h.f3⟩
theorem Lx{w0 w:World}{q:Nat}(hx:Ex w0 w)(hq:w0.heap.size<=q)(u v z y:Value):Ex w0 ((((w.setCell ⟨q,0,none⟩ u).setCell ⟨q,1,none⟩ v).setCell ⟨q,2,none⟩ z).setCell ⟨q,3,none⟩ y):=
 (((hx.setCell (p:=⟨q,0,none⟩) hq _).setCell (p:=⟨q,1,none⟩) hq _).setCell (p:=⟨q,2,none⟩) hq _).setCell (p:=⟨q,3,none⟩) hq _
theorem cz{P:Prop}(h:P:=by simp[results,Tryz.results196,go_sem,q0,q1,q2,q3]):P:=h
theorem J8(w:World)(p m:Int)(ml:List Int)(mv:Value)(aJ:Aj w mv ml)(aA:Int)(rows:List (List Int))(v:Value)(hv:BT w v rows)(h0:Dn p m ml aA rows=0->1<=aA):
  Calls Tryz.prog 196 #[.agg #[.int .i64 p,.int .i64 m,mv],.agg #[.int .i64 aA,v]] w fun r w'=>(∃(g:Option Addr) (c:Int) (a1 a2:Option Addr) (n1 k1 n2 k2:Nat) (e:Int),r= .returned (.tuple #[.agg #[.pointer g,.int .i64 c,.slice a1 n1 k1,.slice a2 n2 k2],.int .i64 e])/\R0 p m ml aA rows e)/\Ex w w':=by
 obtain⟨g0,g1,g2,e0,aK⟩:=Bc w p m mv;have aY:=Aa (fun (w':World) (h:Ex w w')=>Gb w' p m ml mv (aJ.ex h) aA rows v (hv.ex h) h0);have bB:=Aa (fun (w':World) (h:Ex w w')=>ES p m ml mv w' (aJ.ex h));have HV:=Aa hv;obtain⟨za,zc,rfl,z1,z2,z3⟩:=hv.open;clear z1 z3;unfold maxLen at z2;obtain⟨ma,mc,rfl,-,m2,-⟩:=aJ.open;unfold maxLen at m2;obtain⟨xb,aZ⟩:=nA w.heap.size;rw[aZ]at g0 g1 g2 aK;clear aJ hv h0;go_enter Tryz.func196,Tryz.ntmps196
 go_wp2_with fail
 generalize w.alloc (.cells #[.int .i64 p,.int .i64 m,.slice ma ml.length mc] 24)=wA at *;obtain⟨a0,a1,ea⟩:=D3 wA aA (.slice za rows.length zc);have aV:(wA.alloc (.cells #[.int .i64 aA,.slice za rows.length zc] 137)).heap.size=xb+1+1:=by simp[aK]
 rw[aK]at a0 a1;generalize wA.alloc (.cells #[.int .i64 aA,.slice za rows.length zc] 137)=wB at *;have bq:=Yt.new wB;rw[aV]at bq;have eb:Ex wB _:=(Ex.refl wB).alloc (.cells #[.pointer none,.int .i64 0,.slice none 0 0,.slice none 0 0] 230);obtain⟨A0,A1,G0,G1,G2,BQ,HE⟩:=OK (eb.cell a0) (eb.cell a1) ((ea.trans eb).cell g0) ((ea.trans eb).cell g1) ((ea.trans eb).cell g2) bq ((e0.trans ea).trans eb);generalize wB.alloc (.cells #[.pointer none,.int .i64 0,.slice none 0 0,.slice none 0 0] 230)=wC at *;refine(aY.o wC HE.o).mono ?_;clear g0 g1 g2 a0 a1 bq e0 ea eb aV aK;rintro e w2⟨hc,aC⟩;obtain⟨aI,aO,A0,A1,G0,G1,G2,aN⟩:=On (HE.o.trans aC) (BQ.o.ex aC) (aC.cell A0.o) (aC.cell A1.o) (aC.cell G0.o) (aC.cell G1.o) (aC.cell G2.o) (show w.heap.size<=xb+1+1 from ac);clear aC BQ HE aY;rcases hc with⟨hce,pn,mn,N,piv,a',rv,pv,rfl,rfl,rfl,hfb,hmk,rfl,hel,hrv,hpv,-⟩|⟨hce,rfl⟩
 .have aX:=Aa hrv;have aE:=Aa (fun e (h:e=if AL N piv.length a'=rows then 0 else 5)=>show R0 pn mn ml N rows e from .inr ⟨hce,pn,mn,N,piv,a',rfl,rfl,rfl,hfb,hmk,hel,h⟩);have bC:=Aa hfb;obtain⟨ra,rc,rfl,-,r2,-⟩:=hrv.open;obtain⟨pa,pc,rfl,-,p2,-⟩:=hpv.open;unfold maxLen at r2 p2;obtain⟨L,hL⟩:=nA (AL N piv.length a');obtain⟨PL,aU⟩:=nA (pI piv);rw[hL]at aX aE ⊢;rw[aU];clear hce hfb hmk hel hrv hpv hL aU;have aH:=Aa ((Ex.refl w2).alloc (.cells #[.int .i64 N,.slice ra L.length rc] 137));have l0:(w2.alloc (.cells #[.int .i64 N,.slice ra L.length rc] 137)).cell? ⟨w2.heap.size,1,none⟩=some (.slice ra L.length rc):=by simp
  have aW:=aH.o.cell A1.o;have aL:=Aa (Dg (w2.alloc (.cells #[.int .i64 N,.slice ra L.length rc] 137)) L rows _ _ (aX.o.ex aH.o) (HV.o.ex (aI.o.trans aH.o)));by_cases hLR:L=rows
  .rw[decide_eq_true hLR]at aL;have aD:=Aa (aE.o 0 (by rw[if_pos hLR]));clear hLR;go_wp2_with fail
   refine aL.o.mono ?_;rintro e w3⟨rfl,n3,aG⟩;have aF:Ex (w2.alloc (.cells #[.int .i64 N,.slice ra L.length rc] 137)) w3:=by rw[aG];exact(Ex.refl _).drewN n3
   have aB:=Aa (aH.o.trans aF);have g0:=aB.o.cell G0.o;have g1:=aB.o.cell G1.o;have g2:=aB.o.cell G2.o;clear aF aG l0 aW;go_wp2_with fail
   refine(bB.o w3 (aI.o.trans aB.o)).mono ?_;rintro e w4⟨aM,aT⟩;rcases aM with⟨pn',mn',x,b,e1,e2,rfl,hg,-,-⟩|⟨aM,_⟩
   .have X4:=Aa (aB.o.trans aT);have a0:=X4.o.cell A0.o;have a1:=X4.o.cell A1.o;obtain⟨q0,q1,q2,q3,aS,aR,aQ,aP⟩:=aO.o.ex X4.o;clear e1 e2 hg aT g0 g1 g2;go_wp2_with fail
    exact bodyPost_ret (v:= .tuple #[.agg #[.pointer (some ⟨b,0,none⟩),.int .i64 N,.slice za rows.length zc,.slice pa PL.length pc],.int .i64 0]) cz rfl ⟨⟨_,_,_,_,_,_,_,_,_,rfl,aD.o⟩,Lx (aI.o.trans X4.o) aN.o _ _ _ _⟩
   .exact absurd bC.o aM
  .rw[decide_eq_false hLR]at aL;have aD:=Aa (aE.o 5 (by rw[if_neg hLR]));clear hLR;go_wp2_with fail
   refine aL.o.mono ?_;rintro e w3⟨rfl,n3,aG⟩;have aF:Ex (w2.alloc (.cells #[.int .i64 N,.slice ra L.length rc] 137)) w3:=by rw[aG];exact(Ex.refl _).drewN n3
   have aB:=Aa (aH.o.trans aF);obtain⟨q0,q1,q2,q3,aS,aR,aQ,aP⟩:=aO.o.ex aB.o;clear aF aG l0 aW;go_wp2_with fail
   exact bodyPost_ret (v:= .tuple #[.agg #[.pointer none,.int .i64 0,.slice none 0 0,.slice none 0 0],.int .i64 5]) cz rfl ⟨⟨_,_,_,_,_,_,_,_,_,rfl,aD.o⟩,Lx (aI.o.trans aB.o) aN.o _ _ _ _⟩
 .have aE:=Aa (show R0 p m ml aA rows (Dn p m ml aA rows) from .inl ⟨hce,rfl⟩);obtain⟨E,hE⟩:=nA (Dn p m ml aA rows);rw[hE]at aE hce ⊢;have hb:(E !=0)=true:=by simpa using hce
  obtain⟨q0,q1,q2,q3,aS,aR,aQ,aP⟩:=aO.o.ex ((Ex.refl w2).alloc (.cells #[.int .i64 0,.slice none 0 0] 137));have bA:=Aa (aI.o.alloc (.cells #[.int .i64 0,.slice none 0 0] 137));clear hE hce;go_wp2_with fail
  exact bodyPost_ret (v:= .tuple #[.agg #[.pointer none,.int .i64 0,.slice none 0 0,.slice none 0 0],.int .i64 E]) cz rfl ⟨⟨_,_,_,_,_,_,_,_,_,rfl,aE.o⟩,Lx bA.o aN.o _ _ _ _⟩
theorem Dh:∀(n:Nat) (f:Nat->Nat),(∀i,i<n->f i<n)->(∀i j,i<n->j<n->f i=f j->i=j)->∀y,y<n->∃x,x<n/\f x=y
 | 0,f,_,_,y,hy=>absurd hy (by omega)
 | n+1,f,h1,h2,y,hy=>by
  have hn:=h1 n ac;by_cases hm:f n=n
  .by_cases hyn:y=n
   .exact⟨n,ac,ac⟩
   .obtain⟨x,hx,e⟩:=Dh n f (fun i hi=>by
     have h3:=h1 i ac;have h4:f i≠n:=fun e=>by
      have:=h2 i n ac ac ac;omega
     omega) (fun i j hi hj e=>h2 i j ac ac e) y ac
    exact⟨x,ac,e⟩
  .have aA:=Dh n (fun i=>if f i=n then f n else f i) (fun i hi=>by
     split
     .omega
     .have:=h1 i ac;omega) (fun i j hi hj e=>by
     split at e <;> split at e
     .exact h2 i j ac ac ac
     .have:=h2 n j ac ac e;omega
     .have:=h2 i n ac ac e;omega
     .exact h2 i j ac ac e)
   by_cases hy1:y=f n
   .exact⟨n,ac,hy1.symm⟩
   .by_cases hyn:y=n
    .obtain⟨x,hx,e⟩:=aA (f n) ac;split at e
     .rename_i h;exact⟨x,ac,ac⟩
     .have:=h2 x n ac ac e;omega
    .obtain⟨x,hx,e⟩:=aA y ac;split at e
     .omega
     .exact⟨x,ac,e⟩
structure A7(n:Nat)(f:Nat->Nat):Prop where
 lt:∀i,i<n->f i<n
 off:∀i,n<=i->f i=i
 inj:∀i j,f i=f j->i=j
def DY:Nat->Nat:=fun i=>i
def An(f g:Nat->Nat):Nat->Nat:=fun i=>g (f i)
def AW(n:Nat)(f:Nat->Nat):Nat->Nat:=fun j=>if j<n then((List.range n).find? fun i=>f i==j).getD 0 else j
theorem EI(n:Nat):A7 n DY:=⟨fun _ h=>h,fun _ _=>rfl,fun _ _ h=>h⟩
theorem A7.of_inj{n:Nat}{f:Nat->Nat}(h1:∀i,i<n->f i<n)(h2:∀i,n<=i->f i=i)(h3:∀i j,i<n->j<n->f i=f j->i=j):A7 n f:=
 ⟨h1,h2,fun i j e=>by
  by_cases hi:i<n <;> by_cases hj:j<n
  .exact h3 i j hi hj e
  .have:=h1 i hi;have:=h2 j ac;omega
  .have:=h1 j hj;have:=h2 i ac;omega
  .have:=h2 i ac;have:=h2 j ac;omega⟩
theorem A7.comp{n:Nat}{f g:Nat->Nat}(hf:A7 n f)(hg:A7 n g):A7 n (An f g):=
 ⟨fun i hi=>hg.lt _ (hf.lt i hi),fun i hi=>by show g (f i)=i;rw[hf.off i hi,hg.off i hi],fun i j e=>hf.inj i j (hg.inj _ _ e)⟩
theorem A7.surj{n:Nat}{f:Nat->Nat}(hf:A7 n f){y:Nat}(hy:y<n):∃x,x<n/\f x=y:=
 Dh n f hf.lt (fun i j _ _ e=>hf.inj i j e) y hy
theorem A7.lt_iff{n:Nat}{f:Nat->Nat}(hf:A7 n f)(i:Nat):f i<n↔i<n:=
 ⟨fun h=>by
  by_cases hi:i<n
  .exact hi
  .have:=hf.off i ac;omega,hf.lt i⟩
theorem A7.inv_l{n:Nat}{f:Nat->Nat}(hf:A7 n f)(i:Nat):AW n f (f i)=i:=by
 unfold AW;by_cases hi:i<n
 .rw[if_pos (hf.lt i hi)]
  cases h:(List.range n).find? fun k=>f k==f i with
  | none=>
   have:=List.find?_eq_none.1 h i (List.mem_range.2 hi);simp at this
  | some k=>
   have:=List.find?_some h;exact hf.inj k i (by simpa using this)
 .rw[if_neg (by rw[hf.off i ac];exact hi),hf.off i ac]
theorem A7.inv_r{n:Nat}{f:Nat->Nat}(hf:A7 n f)(j:Nat):f (AW n f j)=j:=by
 by_cases hj:j<n
 .obtain⟨x,hx,rfl⟩:=hf.surj hj;rw[hf.inv_l]
 .have h1:AW n f j=j:=by unfold AW;rw[if_neg hj]
  rw[h1,hf.off j ac]
theorem A7.inv{n:Nat}{f:Nat->Nat}(hf:A7 n f):A7 n (AW n f):=
 ⟨fun i hi=>by
   have:=(hf.lt_iff (AW n f i)).1 (by rw[hf.inv_r];exact hi);exact this,fun i hi=>by unfold AW;rw[if_neg ac],fun i j e=>by
   have:=congrArg f e
   rwa[hf.inv_r,hf.inv_r]at this⟩
theorem DV(f g h:Nat->Nat):An (An f g) h=An f (An g h):=rfl
theorem A7.then_inv{n:Nat}{f:Nat->Nat}(hf:A7 n f):An f (AW n f)=DY:=funext fun i=>hf.inv_l i
theorem A7.inv_then{n:Nat}{f:Nat->Nat}(hf:A7 n f):An (AW n f) f=DY:=funext fun i=>hf.inv_r i
theorem A7.inv_unique{n:Nat}{f g:Nat->Nat}(hf:A7 n f)(h:An f g=DY):g=AW n f:=by
 have:An (AW n f) (An f g)=An (AW n f) DY:=by rw[h]
 rw[<-DV,hf.inv_then]at this;exact this
theorem Mh(n:Nat):AW n DY=DY:=((EI n).inv_unique rfl).symm
theorem A7.cancel{n:Nat}{f r:Nat->Nat}(hr:A7 n r):An (An f (AW n r)) r=f:=by
 rw[DV,hr.inv_then];rfl
theorem IM{n:Nat}{f g:Nat->Nat}(hf:A7 n f)(hg:A7 n g)(h:∀i,i<n->f i=g i):f=g:=
 funext fun i=>by
  by_cases hi:i<n
  .exact h i hi
  .rw[hf.off i ac,hg.off i ac]
def Jj(f:Nat->Nat):Nat->Nat->Nat
 | 0=>DY
 | k+1=>An (Jj f k) f
theorem LK(f:Nat->Nat)(a b:Nat):Jj f (a+b)=An (Jj f a) (Jj f b):=by
 induction b with
 | zero=>rfl
 | succ b ih=>show An (Jj f (a+b)) f=_;rw[ih];rfl
theorem JB{n:Nat}{f:Nat->Nat}(hf:A7 n f):∀k,A7 n (Jj f k)
 | 0=>EI n
 | k+1=>(JB hf k).comp hf
theorem Ig{f:Nat->Nat}{i k:Nat}(h:Jj f k i=i):∀m,Jj f (k*m) i=i
 | 0=>rfl
 | m+1=>by
  rw[Nat.mul_succ,LK];show Jj f k (Jj f (k*m) i)=i
  rw[Ig h m,h]
theorem A7.back{n:Nat}{f:Nat->Nat}(hf:A7 n f){i:Nat}(hi:i<n):∃k,1<=k/\k<=n/\Jj f k i=i:=by
 have aE:¬∀a b,a<n+1->b<n+1->Jj f a i=Jj f b i->a=b:=fun aA=>by
  obtain⟨x,hx,e⟩:=Dh (n+1) (fun a=>Jj f a i) (fun a _=>by have:=(JB hf a).lt i hi;omega) aA n ac;have:=(JB hf x).lt i hi;omega
 have aD:∃a b,a<b/\b<n+1/\Jj f a i=Jj f b i:=by
  apply Classical.byContradiction;intro aB;refine aE fun a b ha hb e=>?_;apply Classical.byContradiction;intro aC;rcases Nat.lt_or_gt_of_ne aC with h|h
  .exact aB ⟨a,b,h,hb,e⟩
  .exact aB ⟨b,a,h,ha,e.symm⟩
 obtain⟨a,b,aC,hb,e⟩:=aD;refine⟨b-a,ac,ac,?_⟩;have h1:Jj f b=An (Jj f (b-a)) (Jj f a):=by rw[<-LK];congr 1;omega
 rw[h1]at e;exact((JB hf a).inj _ _ e).symm
def NV:Nat->Nat
 | 0=>1
 | k+1=>(k+1)*NV k
theorem NR:∀k,1<=NV k
 | 0=>Nat.le_refl _
 | k+1=>Nat.mul_pos (by omega) (NR k)
theorem NU:∀n k,1<=k->k<=n->k ∣ NV n
 | 0,k,h1,h2=>by omega
 | n+1,k,h1,h2=>by
  by_cases h:k=n+1
  .subst h;exact Nat.dvd_mul_right _ _
  .exact Nat.dvd_trans (NU n k h1 (by omega)) (Nat.dvd_mul_left _ _)
theorem A7.pw_fac{n:Nat}{f:Nat->Nat}(hf:A7 n f):Jj f (NV n)=DY:=by
 refine IM (JB hf _) (EI n) fun i hi=>?_;obtain⟨k,h1,h2,h3⟩:=hf.back hi;obtain⟨m,hm⟩:=NU n k h1 h2;rw[hm];exact Ig h3 m
inductive Gn(S:List (Nat->Nat)):(Nat->Nat)->Prop
 | one:Gn S DY
 | step {f g:Nat->Nat}:Gn S f->g∈S->Gn S (An f g)
structure WV(n:Nat)(H:(Nat->Nat)->Prop):Prop where
 one:H DY
 mul:∀f g,H f->H g->H (An f g)
 inv:∀f,H f->H (AW n f)
 isP:∀f,H f->A7 n f
theorem Gn.mul{S:List (Nat->Nat)}{f g:Nat->Nat}(hf:Gn S f)(hg:Gn S g):Gn S (An f g):=by
 induction hg with
 | one=>exact hf
 | step _ h ih=>exact ih.step h
theorem Gn.of{S:List (Nat->Nat)}{g:Nat->Nat}(h:g∈S):Gn S g:=Gn.one.step h
theorem Gn.isP{n:Nat}{S:List (Nat->Nat)}(hS:∀s∈S,A7 n s){f:Nat->Nat}(h:Gn S f):A7 n f:=by
 induction h with
 | one=>exact EI n
 | step _ h ih=>exact ih.comp (hS _ h)
theorem Gn.pw{S:List (Nat->Nat)}{f:Nat->Nat}(h:Gn S f):∀k,Gn S (Jj f k)
 | 0=>Gn.one
 | k+1=>(h.pw k).mul h
theorem Gn.inv{n:Nat}{S:List (Nat->Nat)}(hS:∀s∈S,A7 n s){f:Nat->Nat}(h:Gn S f):Gn S (AW n f):=by
 have hf:=h.isP hS;have h1:An f (Jj f (NV n-1))=DY:=by
  have:Jj f (1+(NV n-1))=DY:=by
   rw[show 1+(NV n-1)=NV n from by have:=NR n;omega];exact hf.pw_fac
  rw[LK]at this;exact this
 rw[<-hf.inv_unique h1];exact h.pw _
theorem Gn.grp{n:Nat}{S:List (Nat->Nat)}(hS:∀s∈S,A7 n s):WV n (Gn S):=
 ⟨.one,fun _ _=> .mul,fun _=> .inv hS,fun _ h=>Gn.isP hS h⟩
theorem Gn.mono{S T:List (Nat->Nat)}(hS:∀s∈S,Gn T s){f:Nat->Nat}(h:Gn S f):Gn T f:=by
 induction h with
 | one=>exact .one
 | step _ h ih=>exact ih.mul (hS _ h)
def AY(b:Nat)(f:Nat->Nat):Prop:=∀i,i<b->f i=i
theorem JJ(b:Nat):AY b DY:=fun _ _=>rfl
theorem AY.comp{b:Nat}{f g:Nat->Nat}(hf:AY b f)(hg:AY b g):AY b (An f g):=fun i hi=>by
 show g (f i)=i;rw[hf i hi,hg i hi]
theorem AY.inv{n b:Nat}{f:Nat->Nat}(hP:A7 n f)(hf:AY b f):AY b (AW n f):=fun i hi=>by
 have:=hP.inv_l i;rw[hf i hi]at this;exact this
theorem AY.all{n:Nat}{f:Nat->Nat}(hP:A7 n f)(hf:AY n f):f=DY:=IM hP (EI n) hf
theorem AY.div{n b:Nat}{f r:Nat->Nat}(hr:A7 n r)(hf:AY b f)(aA:AY b r)(e:r b=f b):AY (b+1) (An f (AW n r)):=fun i hi=>by
 by_cases h:i=b
 .subst h;show AW n r (f i)=i;rw[<-e];exact hr.inv_l i
 .exact AY.comp hf (AY.inv hr aA) i ac
theorem Wk{p m:Int}{ml:List Int}(h:¬F5 p m ml):BY p m ml=1:=by
 have h1:BY p m ml≠0:=fun e=>h ((Cm p m ml).1 e);unfold BY at h1 ⊢;split
 .rename_i h2;rw[if_pos h2]at h1;exact absurd rfl h1
 .rfl
theorem PU(w:World)(p m:Int)(ml:List Int)(mv:Value)(aD:Aj w mv ml):
  Calls Tryz.prog 147 #[.agg #[.int .i64 p,.int .i64 m,mv]] w fun r w'=>r= .returned (.int .i64 (BY p m ml))/\Ex w w':=by
 obtain⟨a0,a1,a2,ea,-⟩:=Bc w p m mv;have HE:=Aa ea;have aE:=Aa (aD.ex ea);have aC:=Aa (fun w' (h:Aj w' mv ml)=>Ky p m ml mv w' h);have aA:=Hi p m;obtain⟨R,hR⟩:=nA (BY p m ml);rw[hR];by_cases hs:Jb p m ml=true
 .obtain⟨pn,mn,rfl,rfl,hf,aH,ho⟩:=Lw hs;rw[ho]at aA;rw[hs]at aC;have aJ:=Aa aA;have aK:=Aa (fun w' (h:Aj w' mv ml)=>F8 pn mn ml mv w' hf h);obtain⟨B,hB⟩:∃B:Bool,(B=true↔R=1)/\(B=false↔R=0)/\∀w' v,MT pn mn ml w' v->∃ga gn gc,v= .slice ga gn gc/\ga.isNone=B:=by
   by_cases hF:J4 pn mn (lw ml)
   .have h0:=(Cm _ _ _).2 ⟨pn,mn,rfl,rfl,hf,aH,hF⟩;rw[hR]at h0;subst h0;refine⟨false,ag,ag,fun w' v h=>?_⟩;rcases h with⟨x,x1,x2,hgx,hgv⟩|⟨hno,rfl⟩
    .obtain⟨ga,gc,rfl,g1,g2,g3⟩:=hgv.open;obtain⟨gb,gof,rfl,g4⟩:=g3 (by rw[Am];have:=Bw hf.p2 hf.m1;omega);exact⟨_,_,_,rfl,rfl⟩
    .exact absurd hF hno
   .have h0:BY pn mn ml=1:=Wk fun ⟨a,b,e1,e2,_,_,h⟩=>by
     have aO:pn=a:=ac;have aN:mn=b:=ac;subst aO;subst aN;exact hF h
    rw[hR]at h0;subst h0;refine⟨true,ag,ag,fun w' v h=>?_⟩;rcases h with⟨x,x1,x2,hgx,hgv⟩|⟨hno,rfl⟩
    .exact absurd ⟨x,x1,x2,hgx⟩ hF
    .exact⟨_,_,_,rfl,rfl⟩
  have HB:=Aa hB;have hE:=fun w (a:Option Addr) (l c:Nat)=>AD (P:=Tryz.prog) w 22 3 a l c Tryz.underlying22;clear aA hf aH ho hs hB hR aD ea;obtain⟨q,aG⟩:=nA (pn^mn);rw[aG]at aJ aK;clear aG;go_enter Tryz.func147,Tryz.ntmps147
  go_wp2_with fail
  obtain⟨xb,aB⟩:=nA w.heap.size;rw[aB]at a0 a1 a2
  try simp only[aB]
  clear aB;generalize w.alloc (.cells #[.int .i64 pn,.int .i64 mn,mv] 24)=w1 at *;have G0:Ex w1 w1.drew:=(Ex.refl w1).drew;have A0:=Aa a0;have A1:=Aa a1;have A2:=Aa a2
  first|go_region_with ((first
        | (go_at_call 111;(with_reducible refine(aC.o _ (aE.o.ex G0)).mono ?_);rintro e w2⟨rfl,h2⟩;have X2:=G0.trans h2;have b0:=X2.cell A0.o;have b1:=X2.cell A1.o;have b2:=X2.cell A2.o;clear h2)
        | (go_at_call 112;(with_reducible refine(aJ.o _).mono ?_);rintro e w3⟨rfl,rfl⟩)
        | (go_at_call 113;(with_reducible refine(aK.o _ (aE.o.ex X2)).mono ?_);rintro e w3⟨gv,rfl,aI,aF⟩;have X3:=X2.trans aF;obtain⟨ga,gn,gc,rfl,aL⟩:=HB.o.2.2 _ _ aI;have aM:=fun w=>hE w ga gn gc;rw[aL]at aM;clear aI aF)))|fail
  all_goals
   cases B with
   | true=>
    obtain rfl:=HB.o.1.1 rfl;go_wp2_with fail
    go_ret;exact⟨rfl,HE.o.trans X3⟩
   | false=>
    obtain rfl:=HB.o.2.1.1 rfl;go_wp2_with fail
    go_ret;exact⟨rfl,HE.o.trans X3⟩
 .have hs:Jb p m ml=false:=by simpa using hs
  rw[hs]at aC;have hr:=QU (p:=p) (m:=m) hs;rw[hR]at hr;subst hr;clear hs aA hR aD ea;go_enter Tryz.func147,Tryz.ntmps147
  go_wp2_with fail
  obtain⟨xb,aB⟩:=nA w.heap.size;rw[aB]at a0 a1 a2
  try simp only[aB]
  clear aB;generalize w.alloc (.cells #[.int .i64 p,.int .i64 m,mv] 24)=w1 at *;have G0:Ex w1 w1.drew:=(Ex.refl w1).drew
  first|go_region_with ((go_at_call 111;(with_reducible refine(aC.o _ (aE.o.ex G0)).mono ?_);rintro e w2⟨rfl,h2⟩;have X2:=G0.trans h2;clear h2))|fail
  all_goals
   go_wp2_with fail
   go_ret;exact⟨rfl,HE.o.trans X2⟩
theorem I9(w:World)(p m:Int)(ml:List Int)(mv:Value)(aB:Aj w mv ml)(aA:Int)(rows:List (List Int))(v:Value)(hv:BT w v rows)(h0:Dn p m ml aA rows=0->1<=aA):
  Calls Tryz.prog 149 #[.agg #[.int .i64 p,.int .i64 m,mv],.agg #[.int .i64 aA,v]] w fun r w'=>(∃e:Int,r= .returned (.int .i64 e)/\R0 p m ml aA rows e)/\Ex w w':=by
 obtain⟨g0,g1,g2,e0,aD⟩:=Bc w p m mv;have aC:=Aa (fun (w':World) (h:Ex w w')=>J8 w' p m ml mv (aB.ex h) aA rows v (hv.ex h) h0);obtain⟨za,zc,rfl,-,z2,-⟩:=hv.open;unfold maxLen at z2;obtain⟨ma,mc,rfl,-,m2,-⟩:=aB.open;unfold maxLen at m2;clear aB hv h0;go_enter Tryz.func149,Tryz.ntmps149
 go_wp2_with fail
 refine(aC.o _ (e0.trans ((Ex.refl _).alloc _))).mono ?_;rintro e w2⟨⟨g,c,a1,a2,n1,k1,n2,k2,e',rfl,hs⟩,hx⟩;have HX:=Aa ((e0.trans ((Ex.refl _).alloc (.cells #[.int .i64 aA,.slice za rows.length zc] 137))).trans hx);clear hx g0 g1 g2 e0 aD aC;go_wp2_with fail
 go_ret;exact⟨⟨e',rfl,hs⟩,HX.o.alloc _⟩
def Ce(p m:Int)(ml:List Int)(n:Int)(rows:List (List Int))(e:Int):Prop:=
 (BY p m ml≠0/\e=1)∨(BY p m ml=0/\GK n≠0/\e=GK n)∨(BY p m ml=0/\GK n=0/\R0 p m ml n rows e)
theorem Df(w:World)(p m:Int)(ml:List Int)(mv:Value)(aE:Aj w mv ml)(n:Int)(rows:List (List Int))(v:Value)(hv:BT w v rows):
  Calls Tryz.prog 90 #[.agg #[.int .i64 p,.int .i64 m,mv,.int .i64 n,v]] w fun r w'=>(∃e:Int,r= .returned (.int .i64 e)/\Ce p m ml n rows e)/\Ex w w':=by
 obtain⟨a0,a1,a2,a3,a4,ea⟩:=Gt w p m mv n v;have aH:=Aa (fun (w':World) (h:Ex w w')=>PU w' p m ml mv (aE.ex h));have aM:=Aa (fun (w':World) (h:Ex w w')=>V5 w' p m mv n rows v (hv.ex h));have aJ:=Aa (fun (h1:GK n=0) (w':World) (h:Ex w w')=>I9 w' p m ml mv (aE.ex h) n rows v (hv.ex h) fun _=>by
  unfold GK at h1;split at h1
  .cases h1
  .omega)
 have aK:=Aa (fun (w':World)=>Jy w' n);obtain⟨za,zc,rfl,-,z2,-⟩:=hv.open;unfold maxLen at z2;obtain⟨ma,mc,rfl,-,m2,-⟩:=aE.open;unfold maxLen at m2;have HE:=Aa ea;obtain⟨F,hF⟩:=nA (BY p m ml);obtain⟨L,hL⟩:=nA (GK n);have aI:=Aa (show ∀e,((F≠0/\e=1)∨(F=0/\L≠0/\e=L)∨(F=0/\L=0/\R0 p m ml n rows e))->Ce p m ml n rows e from fun e h=>by unfold Ce;rw[hF,hL];exact h);rw[hF]at aH;rw[hL]at aJ aK;clear aE hv ea hF hL;go_enter Tryz.func90,Tryz.ntmps90
 go_wp2_with fail
 obtain⟨xb,aF⟩:=nA w.heap.size;rw[aF]at a0 a1 a2 a3 a4
 try simp only[aF]
 clear aF;generalize w.alloc (.cells #[.int .i64 p,.int .i64 m,.slice ma ml.length mc,.int .i64 n,.slice za rows.length zc] 39)=w1 at *;refine(aH.o w1 HE.o).mono ?_;rintro e w2⟨rfl,aB⟩;obtain⟨A0,A1,A2,A3,A4,aD⟩:=To (aB.cell a0) (aB.cell a1) (aB.cell a2) (aB.cell a3) (aB.cell a4) (HE.o.trans aB);clear a0 a1 a2 a3 a4 aB aH HE;by_cases h1:F=0
 .subst h1;have a3:=A3.o;go_wp2_with fail
  refine(aK.o w2).mono ?_;rintro e w3⟨rfl,rfl⟩;by_cases h2:L=0
  .subst h2;have aG:=Aa (aJ.o rfl);have aA:=Aa (fun e h=>aI.o e (.inr (.inr ⟨by trivial,by trivial,h⟩)));go_wp2_with fail
   have aC:=Aa (fun (w':World) (h':Ex w3 w')=>(⟨h'.cell A0.o,h'.cell A1.o,h'.cell A2.o,h'.cell A3.o,h'.cell A4.o⟩:w'.cell? ⟨xb,0,none⟩=some (.int .i64 p)/\w'.cell? ⟨xb,1,none⟩=some (.int .i64 m)/\w'.cell? ⟨xb,2,none⟩=some (.slice ma ml.length mc)/\w'.cell? ⟨xb,3,none⟩=some (.int .i64 n)/\w'.cell? ⟨xb,4,none⟩=some (.slice za rows.length zc)));have G0:Ex w3 w3.drew:=(Ex.refl w3).drew;clear a3
   go_region_held3 (fun w'=>w'.cell? ⟨xb,0,none⟩=some (.int .i64 p)/\w'.cell? ⟨xb,1,none⟩=some (.int .i64 m)/\w'.cell? ⟨xb,2,none⟩=some (.slice ma ml.length mc)/\w'.cell? ⟨xb,3,none⟩=some (.int .i64 n)/\w'.cell? ⟨xb,4,none⟩=some (.slice za rows.length zc))
    (first|with_reducible exact aC.o _ X4|with_reducible exact aC.o _ X3|with_reducible exact aC.o _ G0)
    (first|(go_at_call 104;(with_reducible refine(aM.o _ (aD.o.trans G0)).mono ?_);rintro e w5⟨rfl,h3⟩;have X3:=G0.trans h3;clear h3)|(go_at_call 149;(with_reducible refine(aG.o _ (aD.o.trans X3)).mono ?_);rintro e w4⟨⟨e4,rfl,aL⟩,h4⟩;have X4:=X3.trans h4;clear h4))
   go_wp2_with fail
   go_ret;exact⟨⟨_,rfl,aA.o _ aL⟩,aD.o.trans X4⟩
  .have hb:(L !=0)=true:=by simpa using h2
   have aA:=Aa (aI.o L (.inr (.inl ⟨by trivial,h2,rfl⟩)));clear h2 a3;go_wp2_with fail
   go_ret;exact⟨⟨_,rfl,aA.o⟩,aD.o⟩
 .have hb:(F !=0)=true:=by simpa using h1
  have aA:=Aa (aI.o 1 (.inl ⟨h1,rfl⟩));clear h1;go_wp2_with fail
  go_ret;exact⟨⟨_,rfl,aA.o⟩,aD.o⟩
end Go.Proofs.YtehieobniamagaaGreat
