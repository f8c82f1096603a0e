/- The calls of awake of chapter 32, at their arguments. -/
import Derived.Deep.CutRange
import Derived.Test.YtehieobniamagaaGreatZp24
import Derived.Test.YtehieobniamagaaGreatZp37
import Derived.Test.YtehieobniamagaaGreatZp38
namespace Go.Proofs.YtehieobniamagaaGreat
set_option linter.unusedVariables false
set_option linter.unusedSimpArgs false
set_option maxRecDepth 100000
set_option maxHeartbeats 16000000
section
open Go.RowKit
theorem IP(w:World)(l:List Int)(cs:Array Value)(t:TypeId)(h:(Am l).toArray=cs){B n:Nat}(hB:w.heap.size=B)(hn:l.length=n)(hl:l.length<=1000):Ak (w.alloc (.cells cs t)) (.slice (some ⟨B,0,none⟩) n n) l:=by
 subst hB hn;subst h;exact TI w l t hl
theorem VI(w:World)(rows:List (List Int))(us:List Value)(cs:Array Value)(t:TypeId)(hc:us.toArray=cs)(hl:us.length=rows.length)(h:∀(i:Nat) (r:List Int) (u:Value),rows[i]?=some r->us[i]?=some u->Ak w u r){B n:Nat}(hB:w.heap.size=B)(hn:rows.length=n)(hl2:rows.length<=1000):
  B6 (w.alloc (.cells cs t)) (.slice (some ⟨B,0,none⟩) n n) rows:=by
 subst hB hn hc;refine⟨us,⟨by rw[hl,Nat.mul_one],some ⟨w.heap.size,0,none⟩,rows.length,rfl,Nat.le_refl _,by unfold maxLen;omega,fun _=>⟨_,0,rfl,fun j u hu=>?_⟩⟩,fun i r u a b=>(h i r u a b).ex (AI _ _)⟩;rw[Nat.zero_add];simpa using hu
theorem WK{w:World}{l1:List Int}{u1:Value}(h1:Ak w u1 l1):∀(i:Nat) (r:List Int) (u:Value), [l1][i]?=some r-> [u1][i]?=some u->Ak w u r:=fun i r u a b=>by
 match i,a,b with
 | 0,a,b=>simp at a b;subst a b;exact h1
 | i+1,a,b=>simp at a
theorem WJ{w:World}{l1 l2:List Int}{u1 u2:Value}(h1:Ak w u1 l1)(h2:Ak w u2 l2):∀(i:Nat) (r:List Int) (u:Value), [l1,l2][i]?=some r-> [u1,u2][i]?=some u->Ak w u r:=fun i r u a b=>by
 match i,a,b with
 | 0,a,b=>simp at a b;subst a b;exact h1
 | 1,a,b=>simp at a b;subst a b;exact h2
 | i+2,a,b=>simp at a
def FI(w:World)(b:Nat)(vs:List Value):Prop:=∀i v,vs[i]?=some v->w.cell? ⟨b,i,none⟩=some v
theorem FI.ex{w w':World}{b:Nat}{vs:List Value}(h:FI w b vs)(hx:Ex w w'):FI w' b vs:=fun i v a=>hx.cell (h i v a)
theorem YM(w:World)(pv sv:Value)(hp:Ak w pv [1,0])(hs:Ak w sv [2,1]):
  Calls Tryz.prog 15 #[.agg #[.int .i64 3,.int .i64 1,.slice none 0 0],.agg #[pv,sv,.int .i64 0]] w fun r w'=>∃a c,r= .returned (.tuple #[.slice a 4 c,.int .i64 0])/\Ak w' (.slice a 4 c) [3,2,0,1]/\Ex w w':=
 (J8 w 3 1 [] _ (AW w) _ _ pv sv hp hs 0).mono fun r w' ⟨⟨v,h1,h2⟩,hx⟩=>by
  rw[WP.1]at h1;rw[WP.2]at h2;obtain⟨a,c,rfl,_⟩:=h2.open;exact⟨a,c,h1,h2,hx⟩
theorem VR(w:World)(pv:Value)(hp:Ak w pv [3,2,0,1]):
  Calls Tryz.prog 17 #[.agg #[.int .i64 3,.int .i64 1,.slice none 0 0],.int .i64 2,pv] w fun r w'=>∃a c b d,r= .returned (.tuple #[.agg #[.slice a 2 c,.slice b 2 d,.int .i64 0],.int .i64 0])/\Ak w' (.slice a 2 c) [1,0]/\Ak w' (.slice b 2 d) [2,1]/\Ex w w':=
 (Q7 w 3 1 [] _ (AW w) 2 ac _ pv hp).mono fun r w' ⟨⟨u,v,h1,hu,hv⟩,hx⟩=>by
  obtain⟨q1,q2,q3,q4⟩:=YW;rw[q1,q4]at h1;rw[q2]at hu;rw[q3]at hv;obtain⟨a,c,rfl,_⟩:=hu.open;obtain⟨b,d,rfl,_⟩:=hv.open;exact⟨a,c,b,d,h1,hu,hv,hx⟩
theorem zbJ{P:Prop}(h:P:=by
 rw[hb]at h3 h4;obtain⟨a,c,rfl,_⟩:=h4.open;exact⟨a,c,h3,h4,hx⟩):P:=h
theorem YP(w:World)(v1:Value)(h1:B6 w v1 [[1,1,0]]):
  Calls Tryz.prog 22 #[.agg #[.int .i64 2,.int .i64 1,.slice none 0 0,.int .i64 3,v1]] w fun r w'=>∃a c,r= .returned (.tuple #[.agg #[.int .i64 3,.slice a 1 c],.int .i64 0])/\Eh w' (.slice a 1 c) cL/\Ex w w':=
 (It w eC _ v1 ⟨AW w,h1⟩ Px WR).mono fun r w' ⟨⟨e0,ho,h⟩,hx⟩=>by
  obtain rfl:=Mw ho;rcases h with⟨h,_⟩|⟨_,v,h3,h4⟩
  .exact absurd Uo h
  .have hb:C7 (JV eC:Int) (Eo eC.p.toNat eC.m.toNat eC.ml (Dr eC (AD eC)))=(⟨3,cL⟩,0):=Py;exact zbJ
theorem XG(w:World)(v1:Value)(h1:B6 w v1 [[1,2]]):
  Calls Tryz.prog 22 #[.agg #[.int .i64 3,.int .i64 1,.slice none 0 0,.int .i64 2,v1]] w fun r w'=>∃a c,r= .returned (.tuple #[.agg #[.int .i64 4,.slice a 1 c],.int .i64 0])/\Eh w' (.slice a 1 c) tL/\Ex w w':=
 (It w eT _ v1 ⟨AW w,h1⟩ XU Y4).mono fun r w' ⟨⟨e0,ho,h⟩,hx⟩=>by
  obtain rfl:=XV ho;rcases h with⟨h,_⟩|⟨_,v,h3,h4⟩
  .exact absurd Y6 h
  .have hb:C7 (JV eT:Int) (Eo eT.p.toNat eT.m.toNat eT.ml (Dr eT (AD eT)))=(⟨4,tL⟩,0):=by
    have h:C7 (JV eT:Int) (Eo eT.p.toNat eT.m.toNat eT.ml (Dr eT (AD eT)))=C7 4 (Eo 3 1 [] (Dr eT (AD eT))):=rfl;rw[h,Ul,Sx]
   exact zbJ
theorem YN(w:World)(v1:Value)(h1:B6 w v1 [[1,1,0]]):
  Calls Tryz.prog 24 #[.agg #[.int .i64 2,.int .i64 1,.slice none 0 0,.int .i64 3,v1]] w fun r w'=>∃a c,r= .returned (.tuple #[.slice a 2 c,.int .i64 0])/\B6 w' (.slice a 2 c) [[0,1], [2]]/\Ex w w':=
 (Ko Xh w eC _ v1 ⟨AW w,h1⟩ Px).mono fun r w' ⟨⟨e0,ho,h⟩,hx⟩=>by
  obtain rfl:=Mw ho;rcases h with⟨h,_⟩|⟨_,v,h3,h4⟩
  .exact absurd Uo h
  .have hb:GG eC.n (Nv (Dr eC (AD eC)))=([[0,1], [2]],0):=by
    have h:GG eC.n (Nv (Dr eC (AD eC)))=GG 3 (Nv (Dr eC (AD eC))):=rfl;rw[h,XX,Yi]
   exact zbJ
theorem YR(w:World)(v1:Value)(h1:B6 w v1 [[1,1,0]]):
  Calls Tryz.prog 32 #[.agg #[.int .i64 2,.int .i64 1,.slice none 0 0,.int .i64 3,v1]] w fun r w'=>∃a c b d,r= .returned (.tuple #[.agg #[.int .i64 3,.slice a 1 c,.slice b 2 d],.int .i64 0])/\Eh w' (.slice a 1 c) cL/\Ke w' (.slice b 2 d) eX/\Ex w w':=
 (KC w eC _ v1 ⟨AW w,h1⟩ Px XW WR YX).mono fun r w' ⟨⟨e0,ho,h⟩,hx⟩=>by
  obtain rfl:=Mw ho;rcases h with⟨h,_⟩|⟨_,v,v',h3,h4,h5⟩
  .exact absurd Y7 h
  .rw[Py]at h3 h4;have h6:Ke w' v' eX:=h5;obtain⟨a,c,rfl,_⟩:=h4.open;obtain⟨b,d,rfl,_⟩:=h6.open;rw[Mv]at h3 h6;exact⟨a,c,b,d,h3,h4,h6,hx⟩
theorem VS(w:World)(v1 lv rv:Value)(h1:B6 w v1 [[1,1,0]])(hl:Eh w lv cL)(hr:Ke w rv eX):
  Calls Tryz.prog 29 #[.agg #[.int .i64 2,.int .i64 1,.slice none 0 0,.int .i64 3,v1],.agg #[.int .i64 3,lv,rv]] w fun r w'=>∃a n c,r= .returned (.tuple #[.slice a n c,.int .i64 0])/\GU w' (.slice a n c) 2/\Ex w w':=
 (Oy w eC _ v1 ⟨AW w,h1⟩ 3 cL lv hl ae eX rv hr).mono fun r w' ⟨⟨e0,ho,h⟩,hx⟩=>by
  obtain rfl:=Mw ho;rcases h with⟨h,_⟩|⟨_,h,_⟩|⟨_,_,v,h3,h4⟩
  .exact absurd XY h
  .exact absurd Yh h
  .rw[Ye]at h4;have h5:=h4;obtain⟨n,f,g1,g2,g3⟩:=h4;obtain⟨a,c,rfl,_⟩:=NL.open g3;exact⟨a,_,c,h3,h5,hx⟩
theorem XE(w:World)(v:Value)(hv:Eh w v tL):Calls Tryz.prog 35 #[.agg #[.int .i64 4,v]] w fun r w'=>∃a n c,r= .returned (.tuple #[.slice a n c,.int .i64 0])/\GU w' (.slice a n c) 4/\Ex w w':=
 (Oo w 4 tL v hv ae).mono fun r w' ⟨h1,h3⟩=>by
  rcases h1 with h1|⟨_,u,h1,h2⟩
  .exact absurd Xf h1.1
  .rw[Xe]at h2;have h5:=h2;obtain⟨n,f,g1,g2,g3⟩:=h2;obtain⟨a,c,rfl,_⟩:=NL.open g3;exact⟨a,_,c,h1,h5,h3⟩
theorem NM(w:World)(v u:Value)(hv:Eh w v cL)(hu:Eh w u cL):Calls Tryz.prog 26 #[.agg #[.int .i64 3,v],.agg #[.int .i64 3,u]] w fun r w'=>r= .returned (.bool true)/\Ex w w':=
 (OZ w 3 3 cL cL v u hv hu).mono fun r w' ⟨⟨b,h1,h2⟩,h3⟩=>by
  rw[h2.2 ⟨rfl,rfl⟩]at h1;exact⟨h1,h3⟩
theorem TG(w:World)(x:Nat)(hx:x<=64)(v u:Value)(hv:GU w v x)(hu:GU w u x):Calls Tryz.prog 50 #[v,u] w fun r w'=>r= .returned (.int .i64 0)/\Ex w w':=
 (SX w x x v u hv hu (FK ac) (FK ac)).mono fun r w' ⟨⟨z,h1,h2⟩,h3⟩=>by
  rw[h2.2 rfl]at h1;exact⟨h1,by rw[h3];exact Ex.refl _⟩
theorem TF(w:World)(v u:Value)(l:List Int)(hv:Ak w v l)(hu:Ak w u l):Calls Tryz.prog 19 #[v,u] w fun r w'=>r= .returned (.bool true)/\Ex w w':=
 (C9 w l l v u hv hu).mono fun r w' ⟨h1,n,h3⟩=>by
  rw[decide_eq_true rfl]at h1;exact⟨h1,by rw[h3];exact(Ex.refl w).drewN n⟩
theorem XF(w:World)(v u:Value)(l:List (List Int))(hv:B6 w v l)(hu:B6 w u l):Calls Tryz.prog 27 #[v,u] w fun r w'=>r= .returned (.bool true)/\Ex w w':=
 (EZ w l l v u hv hu).mono fun r w' ⟨h1,n,h3⟩=>by
  rw[decide_eq_true rfl]at h1;exact⟨h1,by rw[h3];exact(Ex.refl w).drewN n⟩
theorem YO(w:World)(pl sl:List Int)(pv sv qv tv:Value)(hp:Ak w pv pl)(hs:Ak w sv sl)(hq:Ak w qv pl)(ht:Ak w tv sl):
  Calls Tryz.prog 20 #[.agg #[pv,sv,.int .i64 0],.agg #[qv,tv,.int .i64 0]] w fun r w'=>r= .returned (.bool true)/\Ex w w':=
 (Ir w pl sl pl sl pv sv qv tv hp hs hq ht 0 0).mono fun r w' ⟨h,hx⟩=>by
  rw[decide_eq_true ⟨rfl,rfl,rfl⟩]at h;exact⟨h,hx⟩
theorem Qh(w:World)(x:Nat)(hx1:1<=x)(hx2:x<=64):GU (w.alloc (.cells #[.int .u32 x] 91)) (.slice (some ⟨w.heap.size,0,none⟩) 1 1) x:=
 ⟨1,fun _=>x,⟨fun _ _=>by show x<4294967296;omega,fun _ _=>by show x≠0;omega⟩,by show 0+x*1=x;omega,NL.mk (Nat.le_refl _) ai fun _=>⟨_,0,rfl,fun j hj=>by
  obtain rfl:j=0:=ac;simp⟩⟩
theorem YY:(∃x,eX[0]?=some x/\x.i=0/\x.j=2)/\∃x,eX[1]?=some x/\x.i=1/\x.j=2:=by
 have h:=WQ;have hl:=Mv;constructor
 .refine⟨eX[0]'ac,List.getElem?_eq_getElem _,?_⟩;have:=congrArg (fun l=>l[0]?) h;simp only[List.getElem?_map,List.getElem?_eq_getElem (show 0<eX.length by omega)]at this;simpa[ZV]using this
 .refine⟨eX[1]'ac,List.getElem?_eq_getElem _,?_⟩;have:=congrArg (fun l=>l[1]?) h;simp only[List.getElem?_map,List.getElem?_eq_getElem (show 1<eX.length by omega)]at this;simpa[ZV]using this
theorem XS{w:World}{a:Option Addr}{c:Nat}(h:Ke w (.slice a 2 c) eX):∃X o,a=some ⟨X,o,none⟩/\w.cell? ⟨X,o,none⟩=some (.int .i64 0)/\w.cell? ⟨X,o+1,none⟩=some (.int .i64 2)/\w.cell? ⟨X,o+4,none⟩=some (.int .i64 1)/\w.cell? ⟨X,o+4+1,none⟩=some (.int .i64 2):=by
 obtain⟨a',c',e,_,_,h3⟩:=h.open;injection e with e1 _ _;subst e1;obtain⟨X,o,rfl,h4⟩:=h3 (by rw[Mv];omega);obtain⟨⟨x,x1,x2,x3⟩,⟨y,y1,y2,y3⟩⟩:=YY;obtain⟨_,f1,f2,_⟩:=h4 0 x x1;obtain⟨_,g1,g2,_⟩:=h4 1 y y1;rw[x2]at f1;rw[x3]at f2;rw[y2]at g1;rw[y3]at g2;exact⟨X,o,rfl,f1,f2,g1,g2⟩
end
section
open Go.RowKit
def wL:World->List Obj->World
 | w, []=>w
 | w,o :: l=>wL (w.alloc o) l
theorem Ly:∀(l:List Obj) {w W:World} {B:Nat},wL w l=W->w.heap.size=B->Ex w W/\∀(j:Nat) (o:Obj),l[j]?=some o->W.heap[B+j]?=some o
 | [],w,W,B,h,hB=>⟨h ▸ Ex.refl w,fun j o hj=>by simp at hj⟩
 | o :: l,w,W,B,h,hB=>by
  obtain⟨h1,h2⟩:=Ly l (w:=w.alloc o) h (B:=B+1) dy;refine⟨(AI w o).trans h1,fun j o' hj=>?_⟩
  cases j with
  | zero=>simp at hj;subst hj;exact IT h1 (Dl hB)
  | succ j=>have:=h2 j o' (by simpa using hj);rwa[show B+(j+1)=B+1+j from ac]
theorem QX{W:World}{b:Nat}{t:TypeId}{xs:List Value}(h:W.heap[b]?=some (.cells xs.toArray t)){j:Nat}{u:Value}(hu:xs[j]?=some u):W.cell? ⟨b,j,none⟩=some u:=by
 unfold World.cell?;simp[h];simpa using hu
theorem Hs{W:World}{b:Nat}{t:TypeId}{xs:List Value}(h:W.heap[b]?=some (.cells xs.toArray t)):FI W b xs:=fun i v a=>QX h a
theorem MJ{w:World}{B:Nat}(cs:Array Value)(t:TypeId)(hB:w.heap.size=B):FI (w.alloc (.cells cs t)) B cs.toList:=Hs (t:=t) (Dl hB)
theorem SA{W:World}{b:Nat}{t:TypeId}(xs:List Value){n size:Nat}(h:W.heap[b]?=some (.cells xs.toArray t))(hx:xs.length=n*size)(hn:n<=1000):Sl W (.slice (some ⟨b,0,none⟩) n n) n size xs:=
 ⟨hx,some ⟨b,0,none⟩,n,rfl,Nat.le_refl _,by unfold maxLen;omega,fun _=>⟨b,0,rfl,fun j u hu=>by rw[Nat.zero_add];exact QX h hu⟩⟩
theorem Gq{W:World}{b:Nat}{t:TypeId}(l:List Int)(h:W.heap[b]?=some (.cells (Am l).toArray t))(hl:l.length<=1000:=by decide):Ak W (.slice (some ⟨b,0,none⟩) l.length l.length) l:=SA _ h (by simp[Am]) hl
theorem Pe{W:World}{b:Nat}{t:TypeId}(rows:List (List Int)){us:List Value}(h:W.heap[b]?=some (.cells us.toArray t))(hr:∀(i:Nat) (r:List Int) (u:Value),rows[i]?=some r->us[i]?=some u->Ak W u r)(hu:us.length=rows.length:=by rfl)(hl:rows.length<=1000:=by decide):B6 W (.slice (some ⟨b,0,none⟩) rows.length rows.length) rows:=
 ⟨us,SA _ h ac hl,hr⟩
theorem XD{W:World}{b:Nat}{t:TypeId}(l1:Lv){u1 r1:Value}(h:W.heap[b]?=some (.cells #[.int .i64 l1.pt,u1,r1] t))(h1:Ak W u1 l1.orb)(h2:B6 W r1 l1.reps):Eh W (.slice (some ⟨b,0,none⟩) 1 1) [l1]:=
 ⟨[(u1,r1)],rfl,SA _ h rfl ae,fun i l o a b=>by
  match i,a,b with
  | 0,a,b=>simp at a b;subst a b;exact⟨h1,h2⟩
  | i+1,a,b=>simp at a⟩
theorem FI.o2{w:World}{b:Nat}{x y:Value}(h:FI w b [x,y]):w.cell? ⟨b,0,none⟩=some x/\w.cell? ⟨b,1,none⟩=some y:=⟨h 0 _ rfl,h 1 _ rfl⟩
theorem FI.o3{w:World}{b:Nat}{x y z:Value}(h:FI w b [x,y,z]):w.cell? ⟨b,0,none⟩=some x/\w.cell? ⟨b,1,none⟩=some y/\w.cell? ⟨b,2,none⟩=some z:=⟨h 0 _ rfl,h 1 _ rfl,h 2 _ rfl⟩
theorem FI.o5{w:World}{b:Nat}{x y z u v:Value}(h:FI w b [x,y,z,u,v]):w.cell? ⟨b,0,none⟩=some x/\w.cell? ⟨b,1,none⟩=some y/\w.cell? ⟨b,2,none⟩=some z/\w.cell? ⟨b,3,none⟩=some u/\w.cell? ⟨b,4,none⟩=some v:=⟨h 0 _ rfl,h 1 _ rfl,h 2 _ rfl,h 3 _ rfl,h 4 _ rfl⟩
def WZ(w:World)(P:World->Prop):Prop:=∀w',Ex w w'->P w'
theorem Kl{w w':World}{P:World->Prop}(h:Hia (WZ w P))(hx:Ex w w'):Hia (WZ w' P):=fun v hv=>h v (hx.trans hv)
theorem Rw{w:World}{P Q:World->Prop}(h:Hia (WZ w P))(hq:∀v,Ex w v->Q v):Hia (WZ w fun v=>Q v/\P v):=fun v hv=>⟨hq v hv,h v hv⟩
theorem Si{w w':World}{P Q:World->Prop}(h:Hia (WZ w P))(hx:Ex w w')(hq:∀v,Ex w' v->Q v):Hia (WZ w' fun v=>Q v/\P v):=Rw (Kl h hx) hq
theorem at_{w:World}{P:World->Prop}(h:Hia (WZ w P)):P w:=h w (Ex.refl w)
theorem R4(w:World):Calls Tryz.prog 13 #[] w fun r w'=>r= .returned (.bool true)/\Ex w w':=by
 have A:Hia (WZ w fun v=>Ex w v):=fun v h=>h;go_enter Tryz.func13,Tryz.ntmps13
 go_upto_region 5 with fail
 generalize hW:World.alloc _ _=W;obtain⟨B,hB⟩:=nA w.heap.size;simp only[hB,Nat.add_assoc,Nat.reduceAdd]at hW ⊢;obtain⟨ew,H⟩:=Ly [_,_,_,_,_,_,_,_,_,_] hW hB;clear hW hB;have i1:=Gq [1,1,0] (H 1 _ rfl);have i2:=Pe [[1,1,0]] (H 2 _ rfl) (WK i1);have i4:=Gq [1,2] (H 4 _ rfl);have i5:=Pe [[1,2]] (H 5 _ rfl) (WK i4);have i7:=Gq [1,0] (H 7 _ rfl);have i8:=Gq [2,1] (H 8 _ rfl);replace A:=Kl A ew;replace A:=Rw A fun _ h=>i2.ex h;replace A:=Rw A fun _ h=>i5.ex h;replace A:=Rw A fun _ h=>i7.ex h;replace A:=Rw A fun _ h=>i8.ex h;replace A:=Rw A fun _ h=>(Hs (b:=B) (H 0 _ rfl)).ex h;replace A:=Rw A fun _ h=>(Hs (H 3 _ rfl)).ex h;replace A:=Rw A fun _ h=>(Hs (H 6 _ rfl)).ex h;replace A:=Rw A fun _ h=>(Hs (H 9 _ rfl)).ex h;clear ew H i1 i2 i4 i5 i7 i8;obtain⟨aS,aR,aQ⟩:=(at_ A).2.2.2.1.o3;obtain⟨aN,aM,aL⟩:=(at_ A).1.o3;go_wp2_with fail
 refine(YM _ _ _ (at_ A).2.2.2.2.2.1 (at_ A).2.2.2.2.1).mono ?_;rintro e w1⟨pa,pc,rfl,hp,bV⟩;clear aS aR aQ aN aM aL;replace A:=Si A bV fun _ h=>hp.ex h;clear bV hp;obtain⟨aS,aR,aQ⟩:=(at_ A).2.2.2.2.1.o3;go_wp2_with fail
 refine(VR _ _ (IP _ [3,2,0,1] _ _ rfl rfl rfl ae)).mono ?_;rintro e w2⟨ma,mc,sa,sc,rfl,hm,hs,aX⟩;replace aX:=(AI _ _).trans aX;clear aS aR aQ;replace A:=Si A aX fun _ h=>hm.ex h;replace A:=Rw A fun _ h=>hs.ex h;clear aX hm hs;obtain⟨C1,bB⟩:∃B,w2.heap.size=B:=⟨_,rfl⟩;replace A:=Si A (AI _ _) fun _ h=>(MJ #[.slice ma 2 mc,.slice sa 2 sc,.int .i64 0] 26 bB).ex h;go_upto_region 7 with fail
 try simp only[bB]
 clear bB;generalize World.alloc _ _=v2 at *;obtain⟨aE,aD,aC,aB,aA⟩:=(at_ A).2.2.2.2.2.2.1.o5;go_wp2_with fail
 refine(YP _ _ (at_ A).2.2.2.2.2.2.2.2.2.2.2.1).mono ?_;rintro e w3⟨ga,gc,rfl,hg,bU⟩;clear aE aD aC aB aA;replace A:=Si A bU fun _ h=>hg.ex h;clear bU hg;obtain⟨C2,bA⟩:∃B,w3.heap.size=B:=⟨_,rfl⟩;replace A:=Si A (AI _ _) fun _ h=>(MJ #[.int .i64 3,.slice ga 1 gc] 43 bA).ex h;go_upto_region 8 with fail
 try simp only[bA]
 clear bA;generalize World.alloc _ _=v3 at *;obtain⟨aE,aD,aC,aB,aA⟩:=(at_ A).2.2.2.2.2.2.2.2.1.o5;go_wp2_with fail
 refine(YN _ _ (at_ A).2.2.2.2.2.2.2.2.2.2.2.2.2.1).mono ?_;rintro e w4⟨oa,oc,rfl,ho,bT⟩;clear aE aD aC aB aA;replace A:=Si A bT fun _ h=>ho.ex h;clear bT ho;obtain⟨aE,aD,aC,aB,aA⟩:=(at_ A).2.2.2.2.2.2.2.2.2.1.o5;go_wp2_with fail
 refine(YR _ _ (at_ A).2.2.2.2.2.2.2.2.2.2.2.2.2.2.1).mono ?_;rintro e w5⟨ya,yc,yb,yd,rfl,hy,hz,bS⟩;clear aE aD aC aB aA;replace A:=Si A bS fun _ h=>hy.ex h;replace A:=Rw A fun _ h=>hz.ex h;clear bS hy hz;obtain⟨C3,aZ⟩:∃B,w5.heap.size=B:=⟨_,rfl⟩;replace A:=Si A (AI _ _) fun _ h=>(MJ #[.int .i64 3,.slice ya 1 yc,.slice yb 2 yd] 53 aZ).ex h;go_upto_region 10 with fail
 try simp only[aZ]
 clear aZ;generalize World.alloc _ _=v5 at *;obtain⟨aE,aD,aC,aB,aA⟩:=(at_ A).2.2.2.2.2.2.2.2.2.2.2.2.1.o5;obtain⟨aK,aJ,aI⟩:=(at_ A).1.o3;go_wp2_with fail
 refine(VS _ _ _ _ (at_ A).2.2.2.2.2.2.2.2.2.2.2.2.2.2.2.2.2.1 (at_ A).2.2.1 (at_ A).2.1).mono ?_;rintro e w6⟨na,nn,nc,rfl,hn,bR⟩;clear aE aD aC aB aA aK aJ aI;replace A:=Si A bR fun _ h=>hn.ex h;clear bR hn;obtain⟨bN,bM,bL,bK,bJ⟩:=(at_ A).2.2.2.2.2.2.2.2.2.2.2.2.1.o5;go_wp2_with fail
 refine(XG _ _ (at_ A).2.2.2.2.2.2.2.2.2.2.2.2.2.2.2.2.2.1).mono ?_;rintro e w7⟨ta,tc,rfl,ht,bQ⟩;clear bN bM bL bK bJ;replace A:=Si A bQ fun _ h=>ht.ex h;clear bQ ht;obtain⟨C4,aY⟩:∃B,w7.heap.size=B:=⟨_,rfl⟩;replace A:=Si A (AI _ _) fun _ h=>(MJ #[.int .i64 4,.slice ta 1 tc] 43 aY).ex h;go_upto_region 12 with fail
 try simp only[aY]
 clear aY;generalize World.alloc _ _=v7 at *;obtain⟨bD,bC⟩:=(at_ A).1.o2;go_wp2_with fail
 refine(XE _ _ (at_ A).2.1).mono ?_;rintro e w8⟨ua,un,uc,rfl,hu,bP⟩;clear bD bC;replace A:=Si A bP fun _ h=>hu.ex h;clear bP hu;go_upto_region 16 with fail
 generalize hV:World.alloc _ _=V;obtain⟨D,hD⟩:∃B,w8.heap.size=B:=⟨_,rfl⟩;simp only[hD,Nat.add_assoc,Nat.reduceAdd]at hV ⊢;obtain⟨ew,H⟩:=Ly [_,_,_,_,_,_] hV hD;clear hV hD;have i0:=Gq (b:=D) [0,1] (H 0 _ rfl);have i1:=Gq [0,1,2] (H 1 _ rfl);have i2:=Gq [1,0,2] (H 2 _ rfl);have i3:=Pe [[0,1,2], [1,0,2]] (H 3 _ rfl) (WJ i1 i2);have i4:Eh V _ cL:=XD ⟨0, [0,1], [[0,1,2], [1,0,2]]⟩ (H 4 _ rfl) i0 i3;replace A:=Kl A ew;replace A:=Rw A fun _ h=>i4.ex h;replace A:=Rw A fun _ h=>(Hs (H 5 _ rfl)).ex h;clear ew H i0 i1 i2 i3 i4;go_wp2_with fail
 refine(TF _ _ _ [3,2,0,1] ((at_ A).2.2.2.2.2.2.2.2.2.2.2.2.2.2.2.1.ex (AI _ _)) (IP _ [3,2,0,1] _ _ rfl rfl rfl ae)).mono ?_;rintro e w9⟨rfl,aW⟩;replace aW:=(AI _ _).trans aW;replace A:=Kl A aW;clear aW;obtain⟨bG,bF,bE⟩:=(at_ A).2.2.2.2.2.2.2.2.2.2.2.2.1.o3;obtain⟨aN,aM,aL⟩:=(at_ A).2.2.2.2.2.2.2.2.2.2.2.2.2.2.2.2.1.o3;go_wp2_with fail
 refine(YO _ [1,0] [2,1] _ _ _ _ (at_ A).2.2.2.2.2.2.2.2.2.2.2.2.2.2.1 (at_ A).2.2.2.2.2.2.2.2.2.2.2.2.2.1 (at_ A).2.2.2.2.2.2.2.2.2.2.2.2.2.2.2.2.2.2.2.2.2.1 (at_ A).2.2.2.2.2.2.2.2.2.2.2.2.2.2.2.2.2.2.2.2.1).mono ?_;rintro e w10⟨rfl,aV⟩;clear bG bF bE aN aM aL;replace A:=Kl A aV;clear aV;obtain⟨bI,bH⟩:=(at_ A).2.2.2.2.2.2.2.2.2.2.1.o2;obtain⟨aP,aO⟩:=(at_ A).1.o2;go_wp2_with fail
 refine(NM _ _ _ (at_ A).2.2.2.2.2.2.2.2.2.2.2.1 (at_ A).2.1).mono ?_;rintro e w11⟨rfl,aU⟩;clear bI bH aP aO;replace A:=Kl A aU;clear aU;go_wp2_with fail
 have hz:=(IP w11 [0,1] #[.int .i64 0,.int .i64 1] 3 rfl rfl rfl ae).ex (AI _ (.cells #[.int .i64 2] 3));have bO:=IP (w11.alloc (.cells #[.int .i64 0,.int .i64 1] 3)) [2] #[.int .i64 2] 3 rfl (B:=w11.heap.size+1) ag rfl ae;have bW:((w11.alloc (.cells #[.int .i64 0,.int .i64 1] 3)).alloc (.cells #[.int .i64 2] 3)).heap.size=w11.heap.size+1+1:=by simp
 refine(XF _ _ _ [[0,1], [2]] ((at_ A).2.2.2.2.2.2.2.2.2.1.ex (((AI _ _).trans (AI _ _)).trans (AI _ _))) (VI _ [[0,1], [2]] [.slice (some ⟨w11.heap.size,0,none⟩) 2 2,.slice (some ⟨w11.heap.size+1,0,none⟩) 1 1] _ _ rfl rfl (WJ hz bO) bW rfl ae)).mono ?_;rintro e w12⟨rfl,aH⟩;replace aH:=(((AI _ _).trans (AI _ _)).trans (AI _ _)).trans aH;replace A:=Kl A aH;clear aH;clear hz bO bW;go_wp2_with fail
 refine(TG _ 2 ac _ _ ((at_ A).2.2.2.2.2.1.ex (AI _ _)) (Qh _ 2 ac ac)).mono ?_;rintro e w13⟨rfl,aG⟩;replace aG:=(AI _ _).trans aG;replace A:=Kl A aG;clear aG;go_wp2_with fail
 refine(TG _ 4 ac _ _ ((at_ A).2.2.1.ex (AI _ _)) (Qh _ 4 ac ac)).mono ?_;rintro e w14⟨rfl,aF⟩;replace aF:=(AI _ _).trans aF;replace A:=Kl A aF;clear aF;obtain⟨aK,aJ,aI⟩:=(at_ A).2.2.2.2.2.2.1.o3;obtain⟨aP,aO⟩:=(at_ A).1.o2;go_wp2_with fail
 refine(NM _ _ _ (at_ A).2.2.2.2.2.2.2.2.1 (at_ A).2.1).mono ?_;rintro e w15⟨rfl,aT⟩;clear aK aJ aI aP aO;replace A:=Kl A aT;clear aT;obtain⟨RX,ro,rfl,r0,r1,r2,r3⟩:=XS (at_ A).2.2.2.2.2.2.2.1;obtain⟨aK,aJ,aI⟩:=(at_ A).2.2.2.2.2.2.1.o3;go_wp2_with fail
 go_ret;exact⟨rfl,(at_ A).2.2.2.2.2.2.2.2.2.2.2.2.2.2.2.2.2.2.2.2.2.2.2.2⟩
end
section
open Go.RowKit
theorem TE(w:World)(M:CE)(pv sv qv tv:Value)(hp:Ak w pv M.perm)(hs:Ak w sv M.scale)(hq:Ak w qv M.perm)(ht:Ak w tv M.scale):
  Calls Tryz.prog 20 #[.agg #[pv,sv,.int .i64 M.frob],.agg #[qv,tv,.int .i64 M.frob]] w fun r w'=>r= .returned (.bool true)/\Ex w w':=
 (Ir w M.perm M.scale M.perm M.scale pv sv qv tv hp hs hq ht M.frob M.frob).mono fun r w' ⟨h,hx⟩=>by
  rw[decide_eq_true ⟨rfl,rfl,rfl⟩]at h;exact⟨h,hx⟩
theorem zbK{P:Prop}(h:P:=by
 clear aA;go_wp2_with fail
 go_ret;exact⟨rfl,HX.o.trans aC.o⟩):P:=h
theorem zbc{P:Prop}(h:P:=by
 clear z1;go_wp2_with fail
 refine(aW.o _ aR.o).mono ?_;rintro e w99⟨rfl,aA⟩;have aC:=Aa aA;exact zbK):P:=h
theorem Fa(w:World)(p m:Int)(mv:Value)(ml:List Int)(aM:Ak w mv ml)(pv sv:Value)(pl sl:List Int)(fr:Int)(hp:Ak w pv pl)(hs:Ak w sv sl)(xv:Value)(P:List Int)(hx:Ak w xv P):
  Calls Tryz.prog 3 #[.agg #[.int .i64 p,.int .i64 m,mv],.agg #[pv,sv,.int .i64 fr],xv] w fun r w'=>r= .returned (.bool true)/\Ex w w':=by
 obtain⟨a0,a1,a2,ea⟩:=B3 w p m mv;obtain⟨b0,b1,b2,eb⟩:=Az (w.alloc (.cells #[.int .i64 p,.int .i64 m,mv] 24)) pv sv fr;have bZ:(w.alloc (.cells #[.int .i64 p,.int .i64 m,mv] 24)).heap.size=w.heap.size+1:=ag;rw[bZ]at b0 b1 b2;replace a0:=eb.cell a0;replace a1:=eb.cell a1;replace a2:=eb.cell a2;have HX:=Aa (ea.trans eb);have cQ:=Aa hp;have cP:=Aa hs;have cH:=Aa (fun w'=>R4 w');have cR:=Aa (fun w'=>CJ p m mv w');have cC:=Aa (fun (w':World) (h:Ex w w')=>J8 w' p m ml _ (aM.ex h) pl sl _ _ (hp.ex h) (hs.ex h) fr);have cB:=Aa (fun (w':World) (h:Ex w w')=>Ns w' p m ml _ (aM.ex h) pl sl _ _ (hp.ex h) (hs.ex h) fr);have cE:=Aa (fun (w':World) (h:Ex w w') (n:Int) (hn:-9223372036854775808<=n/\n<=9223372036854775807) (L:List Int) (lv:Value) (hl:Ak w' lv L)=>Q7 w' p m ml _ (aM.ex h) n hn L lv hl);have cD:=Aa (fun (w':World) (h:Ex w w') (n:Int) (hn:-9223372036854775808<=n/\n<=9223372036854775807)=>SV w' p m ml _ (aM.ex h) n hn P xv (hx.ex h));have cL:=Aa hx;obtain⟨ma,mc,rfl,-,m2,-⟩:=aM.open;obtain⟨pa,pc,rfl,-,q2,-⟩:=hp.open;obtain⟨sa,sc,rfl,-,s2,-⟩:=hs.open;obtain⟨xa,xc,rfl,-,x2,-⟩:=hx.open;unfold maxLen at m2 q2 s2 x2;obtain⟨B,hB⟩:=nA w.heap.size;rw[hB]at a0 a1 a2 b0 b1 b2;obtain⟨E1,bG⟩:∃e,O4 p m ml pl sl fr=e:=⟨_,rfl⟩;obtain⟨L1,bF⟩:∃l,Sg p m ml pl sl fr=l:=⟨_,rfl⟩;have cT:=Aa (fun (h:E1=0)=>(show fr=0/\Mb p m ml pl.length L1=0/\Tk p m ml pl.length L1=⟨pl,sl,0⟩ from by rw[<-bF];exact SZ (bG.trans h)));rw[bG,bF]at cC cB;have cG:=Aa (fun (w':World) (h:Ex w w') (hn:sl.length<=100)=>cE.o w' h (sl.length:Int) ac P _ (cL.o.ex h));have cF:=Aa (fun (w':World) (h:Ex w w') (hn:sl.length<=100)=>cD.o w' h (sl.length:Int) ac);obtain⟨E2,bV⟩:∃e,Mb p m ml sl.length P=e:=⟨_,rfl⟩;obtain⟨M2,bT⟩:∃e,Tk p m ml sl.length P=e:=⟨_,rfl⟩;rw[bV,bT]at cG cF;clear aM hp hs hx ea eb bZ bG bF bV bT cD;go_enter Tryz.func3,Tryz.ntmps3
 go_upto_region 1 with fail
 try simp only[hB]
 clear hB;generalize (w.alloc (.cells #[.int .i64 p,.int .i64 m,.slice ma ml.length mc] 24)).alloc (.cells #[.slice pa pl.length pc,.slice sa sl.length sc,.int .i64 fr] 26)=w1 at *;have aD:=Aa (fun w' (h:Ex w1 w')=>(⟨h.cell a0,h.cell a1,h.cell a2,h.cell b0,h.cell b1,h.cell b2⟩:_/\_/\_/\_/\_/\_));have bY:∀w',Ex w1 w'->Calls Tryz.prog 13 #[] w' fun r w''=>r= .returned (.bool true)/\Ex w1 w'':=fun w' h=>(cH.o w').mono fun r w'' ⟨h1,h2⟩=>⟨h1,h.trans h2⟩;have aW:=Aa bY;have cM:=Aa (Ex.refl w1);clear bY;go_wp2_with fail
 refine(cH.o w1).mono ?_;rintro e w2⟨rfl,bP⟩;have aR:=Aa (cM.o.trans bP);clear bP a0 a1 a2 b0 b1 b2;obtain⟨a0,a1,a2,b0,b1,b2⟩:=aD.o w2 aR.o;by_cases z1:100<pl.length
 .have aY:decide ((100:Int)<(pl.length:Int))=true:=by simp;omega
  have bA:(100:Int)<(pl.length:Int):=ac;exact zbc
 .have aY:decide ((100:Int)<(pl.length:Int))=false:=by simp;omega
  have bA:¬(100:Int)<(pl.length:Int):=ac;have l_pl:pl.length<=100:=ac;clear z1;by_cases z1:100<sl.length
  .have aX:decide ((100:Int)<(sl.length:Int))=true:=by simp;omega
   have aZ:(100:Int)<(sl.length:Int):=ac;exact zbc
  .have aX:decide ((100:Int)<(sl.length:Int))=false:=by simp;omega
   have aZ:¬(100:Int)<(sl.length:Int):=ac;have aN:sl.length<=100:=ac;clear z1;by_cases z1:100<P.length
   .have cI:decide ((100:Int)<(P.length:Int))=true:=by simp;omega
    have cJ:(100:Int)<(P.length:Int):=ac;exact zbc
   .have cI:decide ((100:Int)<(P.length:Int))=false:=by simp;omega
    have cJ:¬(100:Int)<(P.length:Int):=ac;have l_P:P.length<=100:=ac;clear z1;go_wp2_with fail
    refine(cR.o w2).mono ?_;rintro e w3⟨rfl,bO⟩;have aV:=Aa (aR.o.trans bO);obtain⟨Q,hQ⟩:=nA (CV p m);rw[hQ];clear hQ;clear bO a0 a1 a2 b0 b1 b2;obtain⟨a0,a1,a2,b0,b1,b2⟩:=aD.o w3 aV.o;by_cases z1:64<Q
    .have kQ:decide (64<Q)=true:=by simpa using z1
     clear z1;go_wp2_with fail
     refine(aW.o _ aV.o).mono ?_;rintro e w99⟨rfl,aA⟩;have aC:=Aa aA;exact zbK
    .have kQ:decide (64<Q)=false:=by simpa using z1
     clear z1;go_wp2_with fail
     refine(cC.o w3 (HX.o.trans aV.o)).mono ?_;rintro e w4⟨⟨va,rfl,bR⟩,bN⟩;have bL:=Aa (aV.o.trans bN);have aE:=Aa bR;clear bR;clear bN a0 a1 a2 b0 b1 b2;obtain⟨a0,a1,a2,b0,b1,b2⟩:=aD.o w4 bL.o;go_wp2_with fail
     refine(cB.o w4 (HX.o.trans bL.o)).mono ?_;rintro e w5⟨⟨vb,rfl,bQ⟩,bB⟩;have bK:=Aa (bL.o.trans bB);have aE:=Aa (aE.o.ex bB);have aS:=Aa bQ;clear bQ;clear bB a0 a1 a2 b0 b1 b2;obtain⟨a0,a1,a2,b0,b1,b2⟩:=aD.o w5 bK.o;go_wp2_with fail
     refine(cG.o w5 (HX.o.trans bK.o) aN).mono ?_;rintro e w6⟨⟨y1,y2,rfl,aG,aF⟩,aU⟩;obtain⟨ya,yc,rfl,-⟩:=aG.open;obtain⟨yb,yd,rfl,-⟩:=aF.open;obtain⟨d0,d1,d2,ed⟩:=Az w6 (.slice ya M2.perm.length yc) (.slice yb M2.scale.length yd) M2.frob;have bJ:=Aa (bK.o.trans (aU.trans ed));have aE:=Aa (aE.o.ex (aU.trans ed));have aS:=Aa (aS.o.ex (aU.trans ed));have aQ:=Aa (aG.ex ed);have aP:=Aa (aF.ex ed);clear aU aG aF ed a0 a1 a2 b0 b1 b2;go_upto_region 6 with fail
     obtain⟨YB,bD⟩:∃B,w6.heap.size=B:=⟨_,rfl⟩;rw[bD]at d0 d1 d2
     try simp only[bD]
     clear bD;generalize w6.alloc (.cells #[.slice ya M2.perm.length yc,.slice yb M2.scale.length yd,.int .i64 M2.frob] 26)=w7 at *;have aL:=Aa (fun wz (hz:Ex w7 wz)=>(⟨hz.cell d0,hz.cell d1,hz.cell d2⟩:_/\_/\_));clear d0 d1 d2;obtain⟨a0,a1,a2,b0,b1,b2⟩:=aD.o w7 bJ.o;go_wp2_with fail
     refine(cF.o w7 (HX.o.trans bJ.o) aN).mono ?_;rintro e w8⟨⟨y1,y2,rfl,aG,aF⟩,aK⟩;obtain⟨za,zc,rfl,-⟩:=aG.open;obtain⟨zb,zd,rfl,-⟩:=aF.open;obtain⟨d0,d1,d2,ed⟩:=Az w8 (.slice za M2.perm.length zc) (.slice zb M2.scale.length zd) M2.frob;have cA:=Aa (bJ.o.trans (aK.trans ed));have aE:=Aa (aE.o.ex (aK.trans ed));have aS:=Aa (aS.o.ex (aK.trans ed));have aQ:=Aa (aQ.o.ex (aK.trans ed));have aP:=Aa (aP.o.ex (aK.trans ed));have bI:=Aa (aG.ex ed);have bH:=Aa (aF.ex ed);have aL:=Aa (fun wz (hz:Ex _ wz)=>aL.o wz ((aK.trans ed).trans hz));clear aK aG aF ed a0 a1 a2 b0 b1 b2;go_upto_region 7 with fail
     obtain⟨ZB,bC⟩:∃B,w8.heap.size=B:=⟨_,rfl⟩;rw[bC]at d0 d1 d2
     try simp only[bC]
     clear bC;generalize w8.alloc (.cells #[.slice za M2.perm.length zc,.slice zb M2.scale.length zd,.int .i64 M2.frob] 26)=w9 at *;have aT:=Aa (fun wz (hz:Ex w9 wz)=>(⟨hz.cell d0,hz.cell d1,hz.cell d2⟩:_/\_/\_));clear d0 d1 d2;obtain⟨a0,a1,a2,b0,b1,b2⟩:=aD.o w9 cA.o;have e1:(E1 !=E1)=false:=ag;have e2:(E2 !=E2)=false:=ag;go_wp2_with fail
     refine(TF w9 _ _ L1 aE.o aS.o).mono ?_;rintro e w10⟨rfl,aB⟩;have bM:=Aa (cA.o.trans aB);have aE:=Aa (aE.o.ex aB);have aQ:=Aa (aQ.o.ex aB);have aP:=Aa (aP.o.ex aB);have bI:=Aa (bI.o.ex aB);have bH:=Aa (bH.o.ex aB);have aL:=Aa (fun wz (hz:Ex _ wz)=>aL.o wz (aB.trans hz));have aT:=Aa (fun wz (hz:Ex _ wz)=>aT.o wz (aB.trans hz));clear aB a0 a1 a2 b0 b1 b2;obtain⟨d0,d1,d2⟩:=aL.o _ (Ex.refl _);obtain⟨f0,f1,f2⟩:=aT.o _ (Ex.refl _);go_wp2_with fail
     refine(TE w10 M2 _ _ _ _ aQ.o aP.o bI.o bH.o).mono ?_;rintro e w11⟨rfl,aH⟩;have aJ:=Aa (bM.o.trans aH);have aE:=Aa (aE.o.ex aH);have aL:=Aa (fun wz (hz:Ex _ wz)=>aL.o wz (aH.trans hz));have aT:=Aa (fun wz (hz:Ex _ wz)=>aT.o wz (aH.trans hz));clear aH  d0 d1 d2 f0 f1 f2;obtain⟨a0,a1,a2,b0,b1,b2⟩:=aD.o w11 aJ.o;by_cases z1:E1=0
     rotate_left
     .have y1:(E1 !=0)=true:=by simpa using z1
      clear z1;go_wp2_with fail
      go_ret;exact⟨rfl,HX.o.trans aJ.o⟩
     .subst z1;obtain⟨cK,bX,bW⟩:=cT.o rfl;subst cK;have cS:=Aa (fun (w':World) (h:Ex w w') (lv:Value) (hl:Ak w' lv L1)=>(by
       have:=cE.o w' h (pl.length:Int) ac L1 lv hl;rw[bX,bW]at this;exact this:Calls Tryz.prog 17 #[.agg #[.int .i64 p,.int .i64 m,.slice ma ml.length mc],.int .i64 (pl.length:Int),lv] w' fun r w''=>Zr ⟨pl,sl,0⟩ 0 r w''/\Ex w' w''))
      clear bX bW;obtain⟨va1,vc1,bS,-⟩:=aE.o.open;obtain⟨LN,bU⟩:∃n,L1.length=n:=⟨_,rfl⟩;rw[bU]at bS;subst bS;clear bU;go_wp2_with fail
      refine(cS.o w11 (HX.o.trans aJ.o) _ aE.o).mono ?_;rintro e w12⟨⟨y1,y2,rfl,aG,aF⟩,aO⟩;obtain⟨ua,uc,rfl,-⟩:=aG.open;obtain⟨ub,ud,rfl,-⟩:=aF.open
      try simp only at aG aF
      skip
      obtain⟨d0,d1,d2,ed⟩:=Az w12 (.slice ua pl.length uc) (.slice ub sl.length ud) 0;have aI:=Aa (aJ.o.trans (aO.trans ed));have cO:=Aa (aG.ex ed);have cN:=Aa (aF.ex ed);clear aO aG aF ed a0 a1 a2 b0 b1 b2;go_upto_region 12 with fail
      obtain⟨UB,bE⟩:∃B,w12.heap.size=B:=⟨_,rfl⟩;rw[bE]at d0 d1 d2
      try simp only[bE]
      clear bE;generalize w12.alloc (.cells #[.slice ua pl.length uc,.slice ub sl.length ud,.int .i64 0] 26)=w13 at *;obtain⟨a0,a1,a2,b0,b1,b2⟩:=aD.o w13 aI.o;go_wp2_with fail
      refine(TE w13 ⟨pl,sl,0⟩ _ _ _ _ cO.o cN.o (cQ.o.ex (HX.o.trans aI.o)) (cP.o.ex (HX.o.trans aI.o))).mono ?_;rintro e w99⟨rfl,aA⟩;have aC:=Aa (aI.o.trans aA);exact zbK
end
end Go.Proofs.YtehieobniamagaaGreat
