/- Walk of automorphism.goals. -/
import Derived.Test.YtehieobniamagaaGreatZc22
namespace Go.Proofs.YtehieobniamagaaGreat
open Go.RowKit
set_option linter.all false
set_option maxRecDepth 100000
set_option maxHeartbeats 4000000
theorem Qo:(Tryz.prog.info? 129).map (fun i=>(i.zero,i.size,i.bytes))=some (some (.agg #[(0:Int),(0:Int),(0:Int),.slice none 0 0,.slice none 0 0]),5,72):=ah
structure Cf where
 i:Nat
 j:Nat
 a:Nat
def LT(k:Nat):List Int:=(List.range k).map fun (x:Nat)=>(x:Int)
theorem Xg(k:Nat):LT (k+1)=LT k ++ [(k:Int)]:=by unfold LT;rw[List.range_succ,List.map_append];rfl
theorem F6(k:Nat):(LT k).length=k:=by unfold LT;simp
def Mw(k:Nat):List Int:=List.replicate k 1
theorem Ww(k:Nat):Mw (k+1)=Mw k ++ [(1:Int)]:=by unfold Mw;rw[List.replicate_succ']
theorem FY(k:Nat):(Mw k).length=k:=by unfold Mw;simp
def Cf.tl(g:Cf):List Int:=LT g.i ++ [(g.j:Int)]
def Cf.sl(g:Cf):List Int:=Mw g.i ++ [(g.a:Int)]
def FJ:List Cf->List (Value × Value)->List Value
 | g :: gs,c :: cs=> .int .i64 g.i :: .int .i64 g.j :: .int .i64 g.a :: c.1 :: c.2 :: FJ gs cs
 | _,_=> []
theorem Qr:∀(L:List Cf) (os:List (Value × Value)) (i:Nat) (l:Cf) (o:Value × Value),L[i]?=some l->os[i]?=some o->(FJ L os)[5*i]?=some (.int .i64 l.i)/\(FJ L os)[5*i+1]?=some (.int .i64 l.j)/\(FJ L os)[5*i+2]?=some (.int .i64 l.a)/\(FJ L os)[5*i+3]?=some o.1/\(FJ L os)[5*i+4]?=some o.2
 | l' :: L,o' :: os,0,l,o,h,k=>by
  simp at h k;subst h k;exact⟨rfl,rfl,rfl,rfl,rfl⟩
 | l' :: L,o' :: os,i+1,l,o,h,k=>by
  have:=Qr L os i l o ay (by simpa using k);rw[show 5*(i+1)=5*i+5 by omega,show 5*i+5+1=5*i+1+5 by omega,show 5*i+5+2=5*i+2+5 by omega,show 5*i+5+3=5*i+3+5 by omega,show 5*i+5+4=5*i+4+5 by omega];simpa[FJ]using this
 | [],os,i,l,o,h,k=>by simp at h
 | l' :: L, [],i,l,o,h,k=>by simp at k
theorem L3:∀(L:List Cf) (os:List (Value × Value)) (l:Cf) (o:Value × Value),os.length=L.length->FJ (L ++ [l]) (os ++ [o])=FJ L os ++ [.int .i64 l.i,.int .i64 l.j,.int .i64 l.a,o.1,o.2]
 | [], [],l,o,_=>rfl
 | l' :: L,o' :: os,l,o,h=>by
  have:=L3 L os l o ay;simp only[List.cons_append,FJ,this]
 | [],o' :: os,l,o,h=>by simp at h
 | l' :: L, [],l,o,h=>by simp at h
def Yz(b0:Nat)(w:World)(v:Value)(gs:List Cf):Prop:=∃cs:List (Value × Value),cs.length=gs.length/\Sl w v gs.length 5 (FJ gs cs)/\∀(i:Nat) (g:Cf) (c:Value × Value),gs[i]?=some g->cs[i]?=some c->(Aj w c.1 g.tl/\Aj w c.2 g.sl)/\(∀X,c.1.ownBlock=some X->b0<=X)/\∀X,c.2.ownBlock=some X->b0<=X
theorem Yz.mono{b0 b1:Nat}{w:World}{v:Value}{L:List Cf}(h:Yz b0 w v L)(hb:b1<=b0):Yz b1 w v L:=by
 obtain⟨os,h1,h2,h3⟩:=h;exact⟨os,h1,h2,fun i l o a b=>⟨(h3 i l o a b).1,fun X e=>Nat.le_trans hb ((h3 i l o a b).2.1 X e),fun X e=>Nat.le_trans hb ((h3 i l o a b).2.2 X e)⟩⟩
theorem Yz.open{b0:Nat}{w:World}{v:Value}{L:List Cf}(h:Yz b0 w v L):∃a cap,v= .slice a L.length cap/\L.length<=cap/\cap<=maxLen/\
  (0<L.length->∃b o,a=some ⟨b,o,none⟩/\∀(i:Nat) (l:Cf),L[i]?=some l->∃u r,w.cell? ⟨b,o+5*i,none⟩=some (.int .i64 l.i)/\w.cell? ⟨b,o+(5*i+1),none⟩=some (.int .i64 l.j)/\w.cell? ⟨b,o+(5*i+2),none⟩=some (.int .i64 l.a)/\w.cell? ⟨b,o+(5*i+3),none⟩=some u/\w.cell? ⟨b,o+(5*i+4),none⟩=some r/\Aj w u l.tl/\Aj w r l.sl/\(∀X,u.ownBlock=some X->b0<=X)/\∀X,r.ownBlock=some X->b0<=X):=by
 obtain⟨os,h1,⟨h2,a,cap,h3,h4,h5,h6⟩,h7⟩:=h;refine⟨a,cap,h3,h4,h5,fun hn=>?_⟩;obtain⟨b,o,h8,h9⟩:=h6 hn;refine⟨b,o,h8,fun i l hl=>?_⟩;have hi:=(List.getElem?_eq_some_iff.1 hl).1;have ho:os[i]?=some (os[i]'ac):=List.getElem?_eq_getElem _;obtain⟨g1,g2,g3,g4,g5⟩:=Qr L os i l _ hl ho;obtain⟨⟨k1,k2⟩,k3,k4⟩:=h7 i l _ hl ho;exact⟨_,_,h9 _ _ g1,h9 _ _ g2,h9 _ _ g3,h9 _ _ g4,h9 _ _ g5,k1,k2,k3,k4⟩
structure NQ(w1 wr:World)(B i j a:Nat)(pv sv:Value)(L0 L1:List Int):Prop where
 c0:wr.cell? (B,0)=some (.int .i64 i)
 c1:wr.cell? (B,1)=some (.int .i64 j)
 c2:wr.cell? (B,2)=some (.int .i64 a)
 b0:wr.cell? (B,3)=some pv
 b1:wr.cell? (B,4)=some sv
 f0:wr.frozen? (B,3)=false
 f1:wr.frozen? (B,4)=false
 o0:wr.ownsRow w1.heap.size 3 1 pv L0.length (Ap L0)
 o1:wr.ownsRow w1.heap.size 3 1 sv L1.length (Ap L1)
 ap:AT pv sv
 n0:∀X,pv.ownBlock=some X->X≠B
 n1:∀X,sv.ownBlock=some X->X≠B
 lb:w1.heap.size<=B
 ex:Ex w1 wr
section
variable {w1 wr w':World} {B i j a:Nat} {pv sv v':Value} {L0 L1:List Int} {x:Int}
theorem NQ.no0(h:NQ w1 wr B i j a pv sv L0 L1):some B≠pv.ownBlock:=fun e=>h.n0 B e.symm rfl
theorem NQ.no1(h:NQ w1 wr B i j a pv sv L0 L1):some B≠sv.ownBlock:=fun e=>h.n1 B e.symm rfl
theorem NQ.at0(h:NQ w1 wr B i j a pv sv L0 L1)(ha:Bt wr w' w1.heap.size 3 1 pv v' L0.length (Ap L0) [.int .i64 x]):
  w'.cell? (B,3)=some pv/\w'.frozen? (B,3)=false:=⟨ha.cell h.b0 h.no0,ha.frz h.b0 h.f0 h.no0⟩
theorem NQ.at1(h:NQ w1 wr B i j a pv sv L0 L1)(ha:Bt wr w' w1.heap.size 3 1 sv v' L1.length (Ap L1) [.int .i64 x]):
  w'.cell? (B,4)=some sv/\w'.frozen? (B,4)=false:=⟨ha.cell h.b1 h.no1,ha.frz h.b1 h.f1 h.no1⟩
theorem NQ.app0(h:NQ w1 wr B i j a pv sv L0 L1)(ha:Bt wr w' w1.heap.size 3 1 pv v' L0.length (Ap L0) [.int .i64 x]):
  NQ w1 (w'.setCell (B,3) v') B i j a v' sv (L0 ++ [x]) L1:=by
 have hn:=Hz.blk ha h.c0 h.n0;have hr:=ha.row h.o1 h.ap.symm;refine⟨?_,?_,?_,World.cell?_setCell_same _ _ _ (ha.cell h.b0 h.no0),?_,?_,?_,?_,?_,hr.2.symm,hn,h.n1,h.lb,(ha.ex h.ex (Nat.le_refl _)).setCell (p:=⟨B,3,none⟩) h.lb _⟩
 .rw[Ag ae];exact ha.cell h.c0 h.no0
 .rw[Ag ae];exact ha.cell h.c1 h.no0
 .rw[Ag ae];exact ha.cell h.c2 h.no0
 .rw[Ag ae];exact ha.cell h.b1 h.no0
 .rw[Ax];exact ha.frz h.b0 h.f0 h.no0
 .rw[Ax];exact ha.frz h.b1 h.f1 h.no0
 .have:=Ac (a:=⟨B,3,none⟩) ha.own (fun e=>hn B e rfl) v';exact zbY
 .exact Ac (a:=⟨B,3,none⟩) hr.1 (fun e=>h.n1 B e rfl) v'
theorem NQ.app1(h:NQ w1 wr B i j a pv sv L0 L1)(ha:Bt wr w' w1.heap.size 3 1 sv v' L1.length (Ap L1) [.int .i64 x]):
  NQ w1 (w'.setCell (B,4) v') B i j a pv v' L0 (L1 ++ [x]):=by
 have hn:=Hz.blk ha h.c0 h.n1;have hr:=ha.row h.o0 h.ap;refine⟨?_,?_,?_,?_,World.cell?_setCell_same _ _ _ (ha.cell h.b1 h.no1),?_,?_,?_,?_,hr.2,h.n0,hn,h.lb,(ha.ex h.ex (Nat.le_refl _)).setCell (p:=⟨B,4,none⟩) h.lb _⟩
 .rw[Ag ae];exact ha.cell h.c0 h.no1
 .rw[Ag ae];exact ha.cell h.c1 h.no1
 .rw[Ag ae];exact ha.cell h.c2 h.no1
 .rw[Ag ae];exact ha.cell h.b0 h.no1
 .rw[Ax];exact ha.frz h.b0 h.f0 h.no1
 .rw[Ax];exact ha.frz h.b1 h.f1 h.no1
 .exact Ac (a:=⟨B,4,none⟩) hr.1 (fun e=>h.n0 B e rfl) v'
 .have:=Ac (a:=⟨B,4,none⟩) ha.own (fun e=>hn B e rfl) v';exact zbZ
end
theorem NQ.new(w1:World)(i j a:Nat):NQ w1 (w1.alloc (.cells #[i,j,a,.slice none 0 0,.slice none 0 0] 129)) w1.heap.size i j a (.slice none 0 0) (.slice none 0 0) [] []:=
 ⟨ag,ag,ag,ag,ag,ag,ag,World.ownsRow_nil _ _ _ _,World.ownsRow_nil _ _ _ _,AT.nil _,by simp[Value.ownBlock],by simp[Value.ownBlock],Nat.le_refl _,(Ex.refl _).alloc _⟩
structure Pk(w1 wr:World)(v:Value)(gs:List Cf)(cs:List (Value × Value)):Prop where
 ex:Ex w1 wr
 len:cs.length=gs.length
 own:wr.ownsRow w1.heap.size 129 5 v gs.length (FJ gs cs)
 at_:∀(i:Nat) (g:Cf) (c:Value × Value),gs[i]?=some g->cs[i]?=some c->(wr.ownsRow w1.heap.size 3 1 c.1 g.tl.length (Ap g.tl)/\AT c.1 v)/\(wr.ownsRow w1.heap.size 3 1 c.2 g.sl.length (Ap g.sl)/\AT c.2 v)
section
variable {w1 wr w' w0:World} {v v' pv sv:Value} {gs:List Cf} {cs:List (Value × Value)} {B:Nat}
theorem Pk.nil(h:Ex w1 wr):Pk w1 wr (.slice none 0 0) [] []:=⟨h,rfl,World.ownsRow_nil _ _ _ _,fun i x c h=>by simp at h⟩
theorem Pk.later(h:Pk w1 wr v gs cs)(hx:Ex wr w'):Pk w1 w' v gs cs:=
 ⟨h.ex.trans hx,h.len,Ai h.own hx,fun i x c a b=>⟨⟨Ai (h.at_ i x c a b).1.1 hx,(h.at_ i x c a b).1.2⟩,⟨Ai (h.at_ i x c a b).2.1 hx,(h.at_ i x c a b).2.2⟩⟩⟩
theorem Pk.gsl(h:Pk w1 wr v gs cs):Yz w1.heap.size wr v gs:=⟨cs,h.len,Sl.own h.own,fun i x c a b=>⟨⟨Sl.own (h.at_ i x c a b).1.1,Sl.own (h.at_ i x c a b).2.1⟩,fun X e=>((h.at_ i x c a b).1.1.lt X e).1,fun X e=>((h.at_ i x c a b).2.1.lt X e).1⟩⟩
theorem zc0{P:Prop}(h:P:=by
 have:=(List.getElem?_eq_some_iff.1 a).1;simp at this;omega):P:=h
theorem Pk.app(h:Pk w1 wr v gs cs){g:Cf}(hx:NQ w0 wr B g.i g.j g.a pv sv g.tl g.sl)(h0:∀X,v.ownBlock=some X->X<w0.heap.size)(hw:w1.heap.size<=w0.heap.size)
  (ha:Bt wr w' w1.heap.size 129 5 v v' gs.length (FJ gs cs) [.int .i64 g.i,.int .i64 g.j,.int .i64 g.a,pv,sv]):Pk w1 w' v' (gs ++ [g]) (cs ++ [(pv,sv)]):=by
 refine⟨ha.ex h.ex (Nat.le_refl _),by simp[h.len],?_,fun i x c a b=>?_⟩
 .have:=ha.own;rw[L3 gs cs g (pv,sv) h.len,List.length_append];exact this
 .by_cases hi:i<gs.length
  .rw[List.getElem?_append_left hi]at a;rw[List.getElem?_append_left ee]at b;obtain⟨⟨p1,p2⟩,⟨p3,p4⟩⟩:=h.at_ i x c a b;exact⟨ha.row p1 p2,ha.row p3 p4⟩
  .have aA:i=gs.length:=by
    exact zc0
   subst aA;rw[List.getElem?_append_right (Nat.le_refl _)]at a;rw[List.getElem?_append_right (by rw[h.len];exact Nat.le_refl _),h.len]at b;simp at a b;subst a b;exact⟨ha.row (FX hx.o0 hw) (GX (fun X e=>(hx.o0.lt X e).1) h0),ha.row (FX hx.o1 hw) (GX (fun X e=>(hx.o1.lt X e).1) h0)⟩
end
def gA(i j c:Nat):List Cf:=(List.range c).map fun a=>⟨i,j,a+1⟩
def gJ(q i k:Nat):List Cf:=(List.range k).flatMap fun j=>gA i (i+j) (q-1)
def gI(n q k:Nat):List Cf:=(List.range k).flatMap fun i=>gJ q i (n-i)
def Dw(n q:Nat):List Cf:=gI n q n
theorem Z7(i j c:Nat):gA i j (c+1)=gA i j c ++ [⟨i,j,c+1⟩]:=by unfold gA;rw[List.range_succ,List.map_append];rfl
theorem OL(q i k:Nat):gJ q i (k+1)=gJ q i k++gA i (i+k) (q-1):=by unfold gJ;rw[List.range_succ,List.flatMap_append];simp
theorem OM(n q k:Nat):gI n q (k+1)=gI n q k++gJ q k (n-k):=by unfold gI;rw[List.range_succ,List.flatMap_append];simp
theorem R7(i j c:Nat):(gA i j c).length=c:=by unfold gA;simp
theorem R6(q i:Nat)(hq:q<=256):∀k,(gJ q i k).length<=k*256
 | 0=>by unfold gJ;simp
 | k+1=>by
  rw[OL,List.length_append,R7];have:=R6 q i hq k;omega
theorem ON(n q:Nat)(hn:n<=64)(hq:q<=256):∀k,(gI n q k).length<=k*16384
 | 0=>by unfold gI;simp
 | k+1=>by
  rw[OM,List.length_append];have:=ON n q hn hq k;have:=R6 q k hq (n-k);omega
theorem NY{base n tb rb gb:Nat}{rr:Nat->Nat}(aA:1<=n)(hn:n<=64):∀m,Ui base n tb rb gb rr m
 | 0=>fun w mb t q u b aB hb=>by
  have h1:1*(n+1)<=(n-b)*(n+1):=Nat.mul_le_mul_right _ ac;unfold Tg at aB;omega
 | m+1=>VF aA hn m (NY aA hn m) (LK aA hn m (NY aA hn m))
theorem ZQ{base n tb rb gb:Nat}{rr:Nat->Nat}(aA:1<=n)(hn:n<=64)(m:Nat):Ym base n tb rb gb rr m:=LK aA hn m (NY aA hn m)
theorem RZ:(Tryz.prog.info? 37).map (fun i=>(i.zero,i.size,i.bytes))=some (some (.slice none 0 0),1,24):=ah
structure NT(w0 wr:World)(n tb rb gb b:Nat)(rr:Nat->Nat)(V:Nat->Nat->Value):Prop where
 c0:wr.cell? (tb,0)=some (.int .i64 n)
 c1:wr.cell? (tb,1)=some (.slice (some (rb,0)) n n)
 c2:wr.cell? (tb,2)=some (.slice (some (gb,0)) n n)
 ro:AF wr w0.heap.size 37 rb n (fun c=>if c<b then .slice (some ⟨rr c,0,none⟩) n n else .slice none 0 0)
 row:∀c,c<b->AF wr w0.heap.size 22 (rr c) n (V c)
 nilv:∀c x,c<b->x<n->x≠c->V c x= .slice none 0 0
 idv:∀c,c<b->∃g,V c c= .slice (some ⟨g,0,none⟩) n n/\AF wr w0.heap.size 3 g n (iv fun i=>(DA i:Int))/\g≠gb/\g≠rb/\∀d,d<b->g≠rr d
 go:AF wr w0.heap.size 37 gb n (fun _=> .slice none 0 0)
 d1:tb≠rb/\tb≠gb/\rb≠gb
 d2:∀c,c<b->rr c≠tb/\rr c≠rb/\rr c≠gb
 d3:∀c d,c<b->d<b->rr c=rr d->c=d
 ex:Ex w0 wr
theorem NT.next{w0 wr w2 w4:World}{n tb rb gb b rx gi:Nat}{rr:Nat->Nat}{V:Nat->Nat->Value}(h:NT w0 wr n tb rb gb b rr V)(hb:b<n)
  (aB:Ex wr w2) (hr:AF w2 wr.heap.size 22 rx n (fun _=> .slice none 0 0))
  (aA:Ex (w2.setCell (rb,b) (.slice (some (rx,0)) n n)) w4) (hi:AF w4 (w2.setCell (rb,b) (.slice (some (rx,0)) n n)).heap.size 3 gi n (iv fun i=>(DA i:Int))):
  NT w0 (w4.setCell (rx,b) (.slice (some (gi,0)) n n)) n tb rb gb (b+1) (Ay rr b rx) (fun c=>if c=b then Ay (fun _=> .slice none 0 0) b (.slice (some (gi,0)) n n) else V c):=by
 have aG:(w2.setCell (rb,b) (.slice (some ⟨rx,0,none⟩) n n)).heap.size=w2.heap.size:=cd;have hrl:=hr.lt;have aL:=hi.lt;rw[aG]at aL;have hz2:=aB.size;have aJ:=h.ex.size;have aI:∀ {a:Addr} {u:Value},wr.cell? a=some u->a.block<wr.heap.size:=fun k=>World.block_lt_of_cell? _ _ k;have aK:=aI h.c0;have hrb:=h.ro.lt.2;have hgb:=h.go.lt.2;have aD:rx≠tb/\rx≠rb/\rx≠gb:=by dsimp only at aK;omega
 have aC:∀ {a:Addr} {u:Value},wr.cell? a=some u->a.block≠rb->(w4.setCell (rx,b) (.slice (some ⟨gi,0,none⟩) n n)).cell? a=some u:=fun {a u} k k2=>by
  have k3:=aI k;rw[World.cell?_setCell_other _ _ _ _ (by
    intro e;have:rx=a.block:=by rw[<-e]
    omega)]
  refine aA.cell ?_;rw[World.cell?_setCell_other _ _ _ _ (by intro e;exact k2 (by rw[<-e]))];exact aB.cell k
 have own:∀ {e:TypeId} {g m:Nat} {c:Nat->Value},AF wr w0.heap.size e g m c->g≠rb->AF (w4.setCell (rx,b) (.slice (some ⟨gi,0,none⟩) n n)) w0.heap.size e g m c:=fun {e g m c} k k2=>by
  have k3:=k.lt.2;exact(((k.ex aB).other (a:=⟨rb,b,none⟩) k2 _).ex aA).other (a:=⟨rx,b,none⟩) (by show g≠rx;omega) _
 have aE:AF w4 w0.heap.size 22 rx n (fun _=> .slice none 0 0):=((hr.other (a:=⟨rb,b,none⟩) aD.2.1 _).ex aA).mono aJ;have aM:Ex w0 w4:=((h.ex.trans aB).setCell (p:=⟨rb,b,none⟩) h.ro.lt.1 _).trans aA;refine⟨aC h.c0 h.d1.1,aC h.c1 h.d1.1,aC h.c2 h.d1.1,?_,fun c hc=>?_,fun c x hc hx aF=>?_,fun c hc=>?_,own h.go (Ne.symm h.d1.2.2),h.d1,fun c hc=>?_,fun c d hc hd e=>?_,aE.exSet (Nat.le_refl _) aM b _⟩
 .have k:=(((h.ro.ex aB).set b (.slice (some ⟨rx,0,none⟩) n n)).ex aA).other (a:=⟨rx,b,none⟩) (by show rb≠rx;exact Ne.symm aD.2.1) (.slice (some ⟨gi,0,none⟩) n n);refine k.congr fun j hj=>?_;unfold Ay;dsimp only;by_cases e:j=b
  .subst e;rw[if_pos rfl,if_pos ac,if_pos rfl]
  .rw[if_neg e,if_neg e];by_cases e2:j<b
   .rw[if_pos e2,if_pos ac]
   .rw[if_neg e2,if_neg ac]
 .by_cases e:c=b
  .subst e;rw[Ab,if_pos rfl];exact aE.set c _
  .rw[Ae _ _ e,if_neg e];exact own (h.row c ac) (h.d2 c ac).2.1
 .show(if c=b then Ay (fun _=> .slice none 0 0) b (.slice (some ⟨gi,0,none⟩) n n) else V c) x=_
  by_cases e:c=b
  .subst e;rw[if_pos rfl,Ae _ _ aF]
  .rw[if_neg e];exact h.nilv c x ac hx aF
 .show ∃g,(if c=b then Ay (fun _=> .slice none 0 0) b (.slice (some ⟨gi,0,none⟩) n n) else V c) c=_/\_
  have aH:gi≠rx:=ac;by_cases e:c=b
  .subst e;rw[if_pos rfl,Ab];refine⟨gi,rfl,(hi.mono (by rw[aG];omega)).other (a:=⟨rx,c,none⟩) aH _,ac,ac,fun d hd=>?_⟩;unfold Ay;split
   .exact aH
   .have:=(h.row d ac).lt.2;omega
  .rw[if_neg e];obtain⟨g,g1,g2,g3,g4,g5⟩:=h.idv c ac;refine⟨g,g1,own g2 g4,g3,g4,fun d hd=>?_⟩;unfold Ay;split
   .have:=g2.lt.2;omega
   .exact g5 d ac
 .unfold Ay;split
  .exact aD
  .exact h.d2 c ac
 .unfold Ay at e;split at e <;> split at e
  .omega
  .have:=(h.row d ac).lt.2;omega
  .have:=(h.row c ac).lt.2;omega
  .exact h.d3 c d ac ac e
theorem NT.fin{w0 wr:World}{n tb rb gb:Nat}{rr:Nat->Nat}{V:Nat->Nat->Value}(hn:1<=n)(h:NT w0 wr n tb rb gb n rr V):∃mb,Sz wr w0.heap.size n tb rb gb rr (fun _=> .slice none 0 0) V mb (Om n):=by
 have aA:∀B,B∈gb :: (List.range n).map rr↔B=gb∨∃c,c<n/\rr c=B:=fun B=>by
  rw[List.mem_cons,List.mem_map];simp only[List.mem_range]
 refine⟨gb :: (List.range n).map rr,h.c0,h.c1,h.c2,fun hm=>?_,fun b hb=>?_,fun hm=>?_,h.row,fun b x hb hx=>?_,h.go,fun b hb=>⟨[],World.ownsRow_nil _ _ _ _,fun i f u h1=>by simp[Om]at h1⟩,(aA gb).2 (.inl rfl),fun b hb=>(aA _).2 (.inr ⟨b,hb,rfl⟩),fun b B hb e=>(by cases e),fun b hb=>Ne.symm (h.d2 b hb).2.2,h.d3,fun b c B hb hc e=>(by cases e),fun B hB=>?_⟩
 .rcases (aA tb).1 hm with e|⟨c,hc,e⟩
  .exact h.d1.2.1 e
  .exact(h.d2 c hc).1 e
 .have:=h.ro.cell hb;rw[this,if_pos hb]
 .rcases (aA rb).1 hm with e|⟨c,hc,e⟩
  .exact h.d1.2.2 e
  .exact(h.d2 c hc).2.1 e
 .show Mq wr _ n (if b<n/\x=b then some DA else none) (V b x)
  by_cases e:x=b
  .subst e;rw[if_pos ⟨hb,rfl⟩];obtain⟨g,g1,g2,g3,g4,g5⟩:=h.idv x hb;rw[g1];exact Cz.of g2.li hn fun B e=>by
    injection e with e;have e:g=B:=e;subst e;intro hm;rcases (aA g).1 hm with e|⟨c,hc,e⟩
    .exact g3 e
    .exact g5 c hc e.symm
  .rw[if_neg (fun h=>e h.2)];exact h.nilv b x hb hx e
 .rcases (aA B).1 hB with e|⟨c,hc,e⟩
  .subst e;exact h.go.lt
  .subst e;exact(h.row c hc).lt
theorem NT.start{w a c:World}{n rb gb:Nat}(aB:Ex w a)(aA:Ex a c)(hr:AF c w.heap.size 37 rb n (fun _=> .slice none 0 0))(hg:AF c w.heap.size 37 gb n (fun _=> .slice none 0 0))(aC:rb≠gb):
  NT w (c.alloc (.cells #[n,.slice (some (rb,0)) n n,.slice (some (gb,0)) n n] 243)) n c.heap.size rb gb 0 (fun _=>0) (fun _ _=> .slice none 0 0):=by
 have h1:=hr.lt.2;have h2:=hg.lt.2;refine⟨ag,ag,ag,(hr.alloc _).congr fun j hj=>by rw[if_neg ac],fun c hc=>ac,fun c x hc=>ac,fun c hc=>ac,hg.alloc _,⟨ac,ac,aC⟩,fun c hc=>ac,fun c d hc=>ac,(aB.trans aA).alloc _⟩
theorem Ol(w:World)(n:Nat)(aK:1<=n)(hn:n<=64):
  Calls Tryz.prog 173 #[n] w fun r w'=>∃tb rb gb rr mb,r= .returned (.pointer (some ⟨tb,0,none⟩))/\Vs w' w.heap.size n tb rb gb rr mb (Om n)/\Ex w w':=by
 go_enter Tryz.func173,Tryz.ntmps173
 go_upto_region 1 with fail
 go_cut [3] from 5 to 12 (fun s3 wx=>∃tb rb gb,s3= .pointer (some ⟨tb,0,none⟩)/\Hia (NT w wx n tb rb gb 0 (fun _=>0) (fun _ _=> .slice none 0 0)))
 case first=>
  have H0:Hia True:=trivial
  go_region_held3 (fun w'=>True) (exact trivial)
   ((refine Fj 241 37 (.slice none 0 0) 24 Tryz.underlying241 RZ rfl n ac ai ?_;intro wm aA hx;(first|(clear H0;have O1:=Aa aA;have X1:=Aa hx;clear aA hx)|(have O2:=Aa aA;have X2:=Aa hx;clear aA hx));go_simp))
  all_goals
   have Y1:=((Ex.refl w).drew).trans X1.o;have L1:=O1.o.lt.2;have P1:=O1.o.ex X2.o;have P2:=O2.o.mono (Y1.size);go_wp2_with fail
   go_meet
   first
      | exact⟨_,_,_,rfl,Aa (NT.start Y1 X2.o P1 P2 (by show w.heap.size≠_;have:=Y1.size;have h9:w.heap.size<_:=L1;omega))⟩
      | exact⟨_,_,_,rfl,Aa (NT.start Y1 X2.o P2 P1 (by show _≠w.heap.size;have:=Y1.size;have h9:w.heap.size<_:=L1;omega))⟩
 case rest=>
  obtain⟨tb,rb,gb,rfl,aB⟩:=hcut;go_wp2_with fail
  go_loopw [13] (fun b' wr=>∃(b:Nat) (rr:Nat->Nat) (V:Nat->Nat->Value),b<=n/\b'= .int .i64 b/\Hia (NT w wr n tb rb gb b rr V)) (fun b' _=>n-(intOf b').toNat)
  case atStart=>exact⟨0,_,_,ac,rfl,aB⟩
  case round=>
   clear aB;obtain⟨b,rr,V,hb,rfl,aB⟩:=hrel;by_cases hbn:b<n
   .have c1:=aB.o.c1;have c3:wr.cell? (rb,b)=some (.slice none 0 0):=by rw[aB.o.ro.cell hbn,if_neg ac]
    have f3:=aB.o.ro.frz b;have i1:(0:Int)<=(b:Int):=ac;have i2:(b:Int)<(n:Int):=ac;have E0:Ex wr wr.drew:=(Ex.refl wr).drew;go_upto_region 5 with fail
    go_cut [4] from 16 to 24 (fun s4 wx=>s4= .int .i64 b/\Hia (∃rx w2,wx=w2.setCell (rb,b) (.slice (some ⟨rx,0,none⟩) n n)/\Ex wr w2/\AF w2 wr.heap.size 22 rx n (fun _=> .slice none 0 0)))
    case first=>
     go_region_with (refine Fj 37 22 (.slice none 0 0) 24 Tryz.underlying37 BG rfl n ac ai ?_;intro wm aA hx;have E1:=E0.trans hx;have aE:=Aa aA;have k1:=E1.cell c1;have k3:=E1.cell c3;have g3:=E1.frz c3 f3;clear aA;go_simp)
     all_goals
      go_wp2_with fail
      go_meet
      exact⟨rfl,Aa ⟨wr.heap.size,wm,rfl,E1,aE.o⟩⟩
    case rest=>
     obtain⟨rfl,aF⟩:=hcut;obtain⟨rx,w2,rfl,aC,hr⟩:=aF.o;have aL:=Aa aC;have HR:=Aa hr;have aM:=Aa aB.o;have hrx:=hr.lt;have aJ:rx≠rb:=by have:=aB.o.ro.lt.2;omega
     have c1:=aC.cell c1;have c6:(w2.setCell (rb,b) (.slice (some ⟨rx,0,none⟩) n n)).cell? (tb,1)=some (.slice (some (rb,0)) n n):=by
      rw[World.cell?_setCell_other _ _ _ _ (by intro e;exact aB.o.d1.1 (by injection e with e;exact e.symm))];exact c1
     have c7:(w2.setCell (rb,b) (.slice (some ⟨rx,0,none⟩) n n)).cell? (rb,b)=some (.slice (some (rx,0)) n n):=by
      rw[((aB.o.ro.ex aC).set b _).cell hbn,Ab]
     have aD:=hr.other (a:=⟨rb,b,none⟩) aJ (.slice (some ⟨rx,0,none⟩) n n);have c8:=aD.cell hbn;have f8:=aD.frz b;clear aF aC hr c1 c3 f3 E0;generalize hW3:w2.setCell (rb,b) (.slice (some ⟨rx,0,none⟩) n n)=w3 at *;have aG:=Aa hW3;have E0:Ex w3 w3.drew:=(Ex.refl w3).drew;have aN:=Aa (fun w4=>F5 w4 n ac);clear hW3;go_wp2_with fail
     go_region_with (go_at_call 102;(with_reducible refine(aN.o _).mono ?_);rintro e wx1⟨gi,rfl,aA,aI⟩;have E1:=E0.trans aI;have aE:=Aa aA;have k6:=E1.cell c6;have k7:=E1.cell c7;have k8:=E1.cell c8;have g8:=E1.frz c8 f8;clear aA)
     all_goals
      have aH:=Aa (aM.o.next (gi:=gi) (w4:=wx1) hbn aL.o HR.o (by rw[aG.o];exact E1) (by rw[aG.o];exact aE.o));clear c6 c7 c8 f8 k6 k7 k8 g8 aD;go_wp2_with fail
      go_roundw
      case rel=>first|exact⟨b+1,_,_,ac,by go_num,aH⟩|((repeat apply Exists.intro);exact⟨⟨b+1,_,_,ac,by go_num,aH⟩,rfl⟩)
      case measure=>simp[intOf];omega
   .obtain rfl:b=n:=by omega
    have aO:=Aa (aB.o.fin aK);have HX:=Aa aB.o.ex;clear aB;go_wp2_with fail
    go_ret;obtain⟨mb,hm⟩:=aO.o;exact⟨tb,rb,gb,rr,mb,rfl,⟨_,_,hm⟩,HX.o⟩
theorem XU{n:Nat}{R:Nat->Nat->Option (Nat->Nat)}{k c:Nat}{p r:Nat->Nat}(h:R c (C6 (R c) p c n)=some r):T9 n R (k+1) c p=T9 n R k (c+1) (Ak r p):=by
 show T9 n R k (c+1) (Ak ((R c (C6 (R c) p c n)).getD DA) p)=_
 rw[h];rfl
theorem QT{R:Nat->Option (Nat->Nat)}{p:Nat->Nat}{c n:Nat}(hc:c<n):∀x,x<=n->C6 R p c x<n
 | 0,_=>hc
 | x+1,h=>by
  unfold C6;split
  .omega
  .exact QT hc x (by omega)
theorem zbp{P:Prop}(h:P:=by
 go_wp2_with fail
 go_quiet (fail)
 go_wp2_with fail
 go_roundw
 case rel=>exact⟨x+1,_,by omega,by go_num,by rw[aE.o],by rw[<-aJ.o,World.drewN_drewN]⟩
 case measure=>simp[intOf];omega):P:=h
theorem zbm{P:Prop}(h:P:=by
 clear aA hR hV hlt;exact zbp):P:=h
theorem PZ(w:World){base n tb rb gb:Nat}{rr:Nat->Nat}{gv:Nat->Value}{V:Nat->Nat->Value}{mb:List Nat}{t:Tw}(hm:Sz w base n tb rb gb rr gv V mb t)(hG:C8 n t)(hn1:1<=n)(hn:n<=64)
  (u:Value) (f:Nat->Nat) (b:Nat) (hb:b<n) (hu:Aj w u (li n f)) (hP:AY n f):
  Calls Tryz.prog 211 #[.pointer (some (tb,0)),u,b] w fun r w'=>∃v,r= .returned v/\Aj w' v (li n (T9 n t.R (n-(b+1)) (b+1) f))/\(v=u∨∃g cap,v= .slice (some ⟨g,0,none⟩) n cap/\w.heap.size<=g)/\Ex w w':=by
 obtain⟨HM,HG,HU,HP⟩:=Eq hm hG hu hP;obtain⟨ua,uc,rfl,_,_,_⟩:=DV hu;obtain⟨E,hE⟩:=nA (T9 n t.R (n-(b+1)) (b+1) f);have HE:=Aa hE;rw[hE];clear hm hG hu hP hE;go_enter Tryz.func211,Tryz.ntmps211
 go_wp2_with fail
 go_loopw [1,7] (fun p' c' wr=>∃(c:Nat) (h:Nat->Nat) (a:Option Addr) (cap:Nat),c<=n/\c'= .int .i64 c/\p'= .slice a n cap/\Hia (Aj wr (.slice a n cap) (li n h))/\Hia (AY n h)/\Hia (T9 n t.R (n-c) c h=E)/\Hia (Value.slice a n cap= .slice ua n uc∨∃g aI,Value.slice a n cap= .slice (some ⟨g,0,none⟩) n aI/\w.heap.size<=g)/\Hia (Ex w wr)) (fun _ c' _=>n-(intOf c').toNat)
 case atStart=>exact⟨b+1,f,ua,uc,ac,by go_num,rfl,HU,HP,HE,Aa (.inl rfl),Aa (Ex.refl _)⟩
 case round=>
  clear HU HP HE;obtain⟨c,h,a,cap,hc,rfl,rfl,hu,hp,he,aM,hx⟩:=hrel;have c0:=hx.o.cell HM.o.c0;have c1:=hx.o.cell HM.o.c1;by_cases hcn:c<n
  .obtain⟨pb,po,rfl,_,aL⟩:=EI hu.o ac;have aS:=Aa aL;have d2:=hx.o.cell (HM.o.ro c hcn);have D2:=Aa d2;have C1:=Aa c1;have i1:(0:Int)<=(c:Int):=by omega
   have i2:(c:Int)<(n:Int):=ac;clear aL;go_wp2_with fail
   go_loopw [8,30] (fun m' x' w2=>∃(x q:Nat),x<=n/\x'= .int .i64 x/\m'= .int .i64 (C6 (t.R c) h c x:Int)/\w2=wr.drewN q) (fun _ x' _=>n-(intOf x').toNat)
   case atStart=>exact⟨0,0,ac,rfl,rfl,rfl⟩
   case round=>
    clear c0 c1 d2;obtain⟨x,q,aW,rfl,rfl,rfl⟩:=hrel;have aG:=Aa (QT (R:=t.R c) (p:=h) hcn x aW);by_cases hxn:x<n
    .have EQ:=Aa ((Ex.refl wr).drewN q);have d3:=EQ.o.cell (hx.o.cell ((HM.o.row c hcn).cell hxn));have aA:=HM.o.rep c x hcn hxn;have aN:C6 (t.R c) h c (x+1)=if (t.R c x).isSome=true/\h x<h (C6 (t.R c) h c x) then x else C6 (t.R c) h c x:=rfl;have aC:=Aa aN;obtain⟨m,hm⟩:=nA (C6 (t.R c) h c x);rw[hm]at aG aC ⊢;have aF:m<n:=aG.o;have d4:=EQ.o.cell (aS.o x hxn);have d5:=EQ.o.cell (aS.o m aF);have i3:(0:Int)<=(x:Int):=by omega
     have i4:(x:Int)<(n:Int):=ac;have i5:(0:Int)<=(m:Int):=ac;have i6:(m:Int)<(n:Int):=ac;obtain⟨W,hW⟩:=nA (wr.drewN q);rw[hW]at d3 d4 d5 ⊢;have aJ:=Aa hW;clear aN hm hW
     cases hR:t.R c x with
     | none=>
      rw[hR]at aA aC;have aA:V c x= .slice none 0 0:=aA;rw[aA]at d3;have aE:=Aa (show C6 (t.R c) h c (x+1)=m from by rw[aC.o,if_neg ag]);clear aA hR;exact zbp
     | some r=>
      rw[hR]at aA aC;have aA:Cz w mb n (V c x) r:=aA;obtain⟨vb,vo,vc,hV,_,_,_,_⟩:=aA.at_;rw[hV]at d3;by_cases hlt:h x<h m
      .have aE:=Aa (show C6 (t.R c) h c (x+1)=x from by rw[aC.o,if_pos ⟨rfl,hlt⟩]);have b1:decide ((h x:Int)<(h m:Int))=true:=by simp;omega
       have b2:decide (h x<h m)=true:=by simpa using hlt
       exact zbm
      .have aE:=Aa (show C6 (t.R c) h c (x+1)=m from by rw[aC.o,if_neg (fun e=>hlt e.2)]);have b1:decide ((h x:Int)<(h m:Int))=false:=by simp;omega
       have b2:decide (h x<h m)=false:=by simpa using hlt
       exact zbm
    .obtain rfl:x=n:=by omega
     have aD:=HG.o.one c hcn;obtain⟨aO,_,_⟩:=GW (R:=t.R c) (p:=h) (c:=c) (by rw[aD];rfl) x;obtain⟨r,hr⟩:=Option.isSome_iff_exists.1 aO;obtain⟨m,hm⟩:=nA (C6 (t.R c) h c x);have aV:=Aa (show T9 x t.R (x-(c+1)) (c+1) (Ak r h)=E from by
      rw[<-he.o,show x-c=x-(c+1)+1 by omega,XU hr])
     rw[hm]at hr aG ⊢;have aF:m<x:=aG.o;have aA:=HM.o.rep c m hcn aF;rw[hr]at aA;have aA:Cz w mb x (V c m) r:=aA;obtain⟨_,_,aH,_,_⟩:=HG.o.rep _ _ _ hr;obtain⟨vb,vo,vc,hV,_,_,_,_⟩:=aA.at_;have EQ:=Aa ((Ex.refl wr).drewN q);have d3:=EQ.o.cell (hx.o.cell ((HM.o.row c hcn).cell aF));have d4:=EQ.o.cell D2.o;have c1:=EQ.o.cell C1.o;rw[hV]at d3;have aR:=Aa (aA.ex (hx.o.trans EQ.o)).sl;rw[hV]at aR;have aY:=Aa (EL (wr.drewN q) x r h _ _ aR.o (hu.o.ex EQ.o) ac aH.lt);have aQ:=Aa (aH.comp hp.o);have i5:(0:Int)<=(m:Int):=bu;have i6:(m:Int)<(x:Int):=ac;have aZ:=Aa (hx.o.trans EQ.o).size;clear aA hr hV aO aD aH he hm;go_wp2_with (go_at_call 108;refine aY.o.mono ?_;rintro e w3⟨g3,rfl,aB,aK⟩;have aT:=Aa aB.li;have aP:=Aa (hx.o.trans (EQ.o.trans aK));have aU:=Aa (Nat.le_trans aZ.o aB.lt.1);clear aB aK)
     go_roundw
     case rel=>first|exact⟨c+1,Ak r h,some ⟨g3,0,none⟩,x,ac,by go_num,rfl,aT,aQ,aV,Aa (.inr ⟨g3,x,rfl,aU.o⟩),aP⟩|((repeat apply Exists.intro);exact⟨⟨c+1,Ak r h,some ⟨g3,0,none⟩,x,ac,by go_num,rfl,aT,aQ,aV,Aa (.inr ⟨g3,x,rfl,aU.o⟩),aP⟩,rfl⟩)
     case measure=>simp[intOf];omega
  .obtain rfl:c=n:=by omega
   have bB:=Aa (show h=E from by rw[<-he.o,Nat.sub_self];rfl);have aX:=Aa hu.o;have bA:=Aa aM.o;clear he hu aM;go_wp2_with fail
   go_ret;refine⟨.slice a c cap,rfl,by rw[<-bB.o];exact aX.o,bA.o,hx.o⟩
theorem Va:(Tryz.prog.info? 90).map (fun i=>(i.zero,i.size,i.bytes))=some (some (.agg #[(0:Int),.slice none 0 0,.slice none 0 0]),3,56):=ah
def RT:List Lv->List (Value × Value)->List Value
 | l :: L,o :: os=> .int .i64 l.pt :: o.1 :: o.2 :: RT L os
 | _,_=> []
theorem Oq:∀(L:List Lv) (os:List (Value × Value)),os.length=L.length->(RT L os).length=L.length*3
 | [], [],_=>rfl
 | l :: L,o :: os,h=>by
  have:=Oq L os ay;simp only[RT,List.length_cons];omega
 | [],o :: os,h=>by simp at h
 | l :: L, [],h=>by simp at h
theorem Ot:∀(L:List Lv) (os:List (Value × Value)) (i:Nat) (l:Lv) (o:Value × Value),L[i]?=some l->os[i]?=some o->(RT L os)[3*i]?=some (.int .i64 l.pt)/\(RT L os)[3*i+1]?=some o.1/\(RT L os)[3*i+2]?=some o.2
 | l' :: L,o' :: os,0,l,o,h,k=>by
  simp at h k;subst h k;exact⟨rfl,rfl,rfl⟩
 | l' :: L,o' :: os,i+1,l,o,h,k=>by
  have:=Ot L os i l o ay (by simpa using k);rw[show 3*(i+1)=3*i+3 by omega,show 3*i+3+1=3*i+1+3 by omega,show 3*i+3+2=3*i+2+3 by omega];simpa[RT]using this
 | [],os,i,l,o,h,k=>by simp at h
 | l' :: L, [],i,l,o,h,k=>by simp at k
theorem Tq:∀(L:List Lv) (os:List (Value × Value)) (l:Lv) (o:Value × Value),os.length=L.length->RT (L ++ [l]) (os ++ [o])=RT L os ++ [.int .i64 l.pt,o.1,o.2]
 | [], [],l,o,_=>rfl
 | l' :: L,o' :: os,l,o,h=>by
  have:=Tq L os l o ay;simp only[List.cons_append,RT,this]
 | [],o' :: os,l,o,h=>by simp at h
 | l' :: L, [],l,o,h=>by simp at h
def EH(w:World)(v:Value)(L:List Lv):Prop:=∃os:List (Value × Value),os.length=L.length/\Sl w v L.length 3 (RT L os)/\∀(i:Nat) (l:Lv) (o:Value × Value),L[i]?=some l->os[i]?=some o->Aj w o.1 l.orb/\B9 w o.2 l.reps
theorem zbM{P:Prop}(h:P:=by
 obtain⟨os,h1,h2,h3⟩:=h;exact⟨os,h1,h2.ex hx,fun i l o a b=>⟨(h3 i l o a b).1.ex hx,(h3 i l o a b).2.ex hx⟩⟩):P:=h
theorem EH.ex{w w':World}{v:Value}{L:List Lv}(h:EH w v L)(hx:Ex w w'):EH w' v L:=by
 exact zbM
theorem EH.nil(w:World):EH w (.slice none 0 0) []:=⟨[],rfl,Sl.nil w 3,fun i l o h=>by simp at h⟩
theorem zcg{P:Prop}(h:P:=by
 obtain⟨k1,k2⟩:=h7 i l _ hl ho;exact⟨_,_,h9 _ _ g1,h9 _ _ g2,h9 _ _ g3,k1,k2⟩):P:=h
theorem EH.open{w:World}{v:Value}{L:List Lv}(h:EH w v L):∃a cap,v= .slice a L.length cap/\L.length<=cap/\cap<=maxLen/\
  (0<L.length->∃b o,a=some ⟨b,o,none⟩/\∀(i:Nat) (l:Lv),L[i]?=some l->∃u r,w.cell? ⟨b,o+3*i,none⟩=some (.int .i64 l.pt)/\w.cell? ⟨b,o+(3*i+1),none⟩=some u/\w.cell? ⟨b,o+(3*i+2),none⟩=some r/\Aj w u l.orb/\B9 w r l.reps):=by
 obtain⟨os,h1,⟨h2,a,cap,h3,h4,h5,h6⟩,h7⟩:=h;refine⟨a,cap,h3,h4,h5,fun hn=>?_⟩;obtain⟨b,o,h8,h9⟩:=h6 hn;refine⟨b,o,h8,fun i l hl=>?_⟩;have hi:=(List.getElem?_eq_some_iff.1 hl).1;have ho:os[i]?=some (os[i]'ac):=List.getElem?_eq_getElem _;obtain⟨g1,g2,g3⟩:=Ot L os i l _ hl ho;exact zcg
theorem Mx.cons{mb aA:List Nat}{w w':World}(h:Mx mb aA w w')(q:Nat):Mx (q :: mb) (q :: aA) w w':=
 ⟨h.os,h.tape,h.output,h.size,fun i hi hn=>h.block i hi (fun hm=>hn (List.mem_cons_of_mem _ hm)),fun B hB=>by
  rcases List.mem_cons.1 hB with e|e
  .exact .inl (by rw[e];exact List.mem_cons_self ..)
  .rcases h.mb B e with k|k
   .exact .inl (List.mem_cons_of_mem _ k)
   .exact .inr k⟩
structure SI(w:World)(mb:List Nat)(v:Value)(l:List Int):Prop where
 sl:Aj w v l
 off:0<l.length->∀B,v.ownBlock=some B->B ∉ mb/\B<w.heap.size
theorem Sl.mx{mb aA:List Nat}{w w':World}(hx:Mx mb aA w w'){v:Value}{n size:Nat}{xs:List Value}(h:Sl w v n size xs)(ho:0<n->∀B,v.ownBlock=some B->B ∉ mb):Sl w' v n size xs:=by
 obtain⟨h1,a,cap,rfl,h3,h4,h5⟩:=h;refine⟨h1,a,cap,rfl,h3,h4,fun hn=>?_⟩;obtain⟨b,o,rfl,h6⟩:=h5 hn;exact⟨b,o,rfl,fun j u hu=>hx.cell (h6 j u hu) (ho hn b rfl)⟩
theorem SI.mx{mb aA:List Nat}{w w':World}{v:Value}{l:List Int}(h:SI w mb v l)(hx:Mx mb aA w w'):SI w' aA v l:=
 ⟨Sl.mx hx h.sl fun hn B e=>(h.off hn B e).1,fun hn B e=>by
  obtain⟨h1,h2⟩:=h.off hn B e;exact⟨fun hb=>by
   rcases hx.mb B hb with h3|h3
   .exact h1 h3
   .omega,Nat.lt_of_lt_of_le h2 hx.size⟩⟩
structure SM(w:World)(mb:List Nat)(v:Value)(rows:List (List Int))(vals:List Value):Prop where
 sl:Sl w v rows.length 1 vals
 off:0<rows.length->∀B,v.ownBlock=some B->B ∉ mb/\B<w.heap.size
 row:∀(i:Nat) (r:List Int) (u:Value),rows[i]?=some r->vals[i]?=some u->SI w mb u r
theorem SM.mx{mb aA:List Nat}{w w':World}{v:Value}{rows:List (List Int)}{vals:List Value}(h:SM w mb v rows vals)(hx:Mx mb aA w w'):SM w' aA v rows vals:=
 ⟨Sl.mx hx h.sl fun hn B e=>(h.off hn B e).1,fun hn B e=>by
  obtain⟨h1,h2⟩:=h.off hn B e;exact⟨fun hb=>by
   rcases hx.mb B hb with h3|h3
   .exact h1 h3
   .omega,Nat.lt_of_lt_of_le h2 hx.size⟩,fun i r u a b=>(h.row i r u a b).mx hx⟩
theorem SM.msl{w:World}{mb:List Nat}{v:Value}{rows:List (List Int)}{vals:List Value}(h:SM w mb v rows vals):B9 w v rows:=⟨vals,h.sl,fun i r u a b=>(h.row i r u a b).sl⟩
structure Yp(w:World)(base q:Nat)(mb:List Nat)(lv:Value)(L:List Lv)(os:List (Value × Value)):Prop where
 own:w.ownsRow base 90 3 lv L.length (RT L os)
 len:os.length=L.length
 lev:∀(i:Nat) (l:Lv) (o:Value × Value),L[i]?=some l->os[i]?=some o->SI w (q :: mb) o.1 l.orb/\∃vals,SM w (q :: mb) o.2 l.reps vals
 blk:∀B,lv.ownBlock=some B->B∈mb
theorem Yp.ex{w w':World}{base q:Nat}{mb:List Nat}{lv:Value}{L:List Lv}{os:List (Value × Value)}(h:Yp w base q mb lv L os)(hx:Ex w w'):Yp w' base q mb lv L os:=
 ⟨Ai h.own hx,h.len,fun i l o a b=>⟨(h.lev i l o a b).1.mx (Mx.ofEx hx (q :: mb)),by obtain⟨vals,h2⟩:=(h.lev i l o a b).2;exact⟨vals,h2.mx (Mx.ofEx hx (q :: mb))⟩⟩,h.blk⟩
theorem Yp.nil(w:World)(base q:Nat)(mb:List Nat):Yp w base q mb (.slice none 0 0) [] []:=
 ⟨World.ownsRow_nil _ _ _ _,rfl,fun i l o h=>by simp at h,fun B h=>by cases h⟩
theorem Yp.mx{w w':World}{base q:Nat}{mb aA:List Nat}{lv:Value}{L:List Lv}{os:List (Value × Value)}(h:Yp w base q mb lv L os)(hx:Mx mb aA w w')(ho:w'.ownsRow base 90 3 lv L.length (RT L os))(hb:∀B,lv.ownBlock=some B->B∈aA):Yp w' base q aA lv L os:=
 ⟨ho,h.len,fun i l o a b=>⟨(h.lev i l o a b).1.mx (hx.cons q),by obtain⟨vals,h2⟩:=(h.lev i l o a b).2;exact⟨vals,h2.mx (hx.cons q)⟩⟩,hb⟩
theorem RM{mb:List Nat}{w w1:World}{base:Nat}{e:TypeId}{size:Nat}{v v':Value}{n:Nat}{xs news:List Value}(ha:Bt w w1 base e size v v' n xs news)(hv:∀B,v.ownBlock=some B->B∈mb){cb j:Nat}{u:Value}(hc:cb∈mb):
  Mx mb (v'.ownBlock.toList++mb) w (w1.setCell (cb,j) u):=by
 obtain⟨o,hg⟩:=ha.gr;have hgs:=ha.grow;have aA:(w1.setCell (cb,j) u).heap.size=w1.heap.size:=cd;refine⟨hg.os.trans rfl,hg.tape.trans rfl,hg.output.trans rfl,by rw[aA];omega,fun i hi hn=>?_,fun B hB=>?_⟩
 .rw[Below.heap_setCell _ _ _ _ (fun e=>hn (by have e:i=cb:=e;rw[e];exact hc))];rw[hg.block i aq (fun e=>hn (hv i e.symm))];exact((Ex.refl w).alloc o).block i hi
 .rcases List.mem_append.1 hB with h1|h1
  .have h1:v'.ownBlock=some B:=by simpa using h1
   rcases ha.at_ with h2|h2
   .rw[h2]at h1;exact .inl (hv B h1)
   .rw[h2]at h1;injection h1 with h1;exact .inr ac
  .exact .inl h1
theorem F7(w:World)(a b:Addr)(u:Value):(w.setCell a u).frozen? b=w.frozen? b:=ag
structure MV(w0 wr:World)(q n b ob lb:Nat)(lv:Value)(L:List Lv)(os:List (Value × Value))(ov:Value)(orb:List Int)(rv:Value)(reps:List (List Int))(vals:List Value)(mb:List Nat):Prop where
 oc0:wr.cell? (ob,0)=some (.int .i64 n)
 oc1:wr.cell? (ob,1)=some lv
 of1:wr.frozen? (ob,1)=false
 lc0:wr.cell? (lb,0)=some (.int .i64 b)
 lc1:wr.cell? (lb,1)=some ov
 lc2:wr.cell? (lb,2)=some rv
 lf1:wr.frozen? (lb,1)=false
 lf2:wr.frozen? (lb,2)=false
 ne:ob≠lb
 ch:Yp wr w0.heap.size q mb lv L os
 ovo:wr.ownsRow w0.heap.size 3 1 ov orb.length (Ap orb)
 rvo:wr.ownsRow w0.heap.size 22 1 rv reps.length vals
 rows:∀(i:Nat) (r:List Int) (u:Value),reps[i]?=some r->vals[i]?=some u->SI wr (q :: mb) u r
 a1:AT ov lv
 a2:AT rv lv
 a3:AT ov rv
 nov:∀B,ov.ownBlock=some B->B≠ob/\B≠lb/\B∈mb
 nrv:∀B,rv.ownBlock=some B->B≠ob/\B≠lb/\B∈mb
 nlv:∀B,lv.ownBlock=some B->B≠ob/\B≠lb/\B∈mb
 om:ob∈mb
 ql:q<w0.heap.size
 lm:lb∈mb
 lo:∀B∈mb,w0.heap.size<=B/\B<wr.heap.size
 ex:Ex w0 wr
section
variable {w0 wr:World} {q n b ob lb:Nat} {lv:Value} {L:List Lv} {os:List (Value × Value)} {ov:Value} {orb:List Int} {rv:Value} {reps:List (List Int)} {vals:List Value} {mb:List Nat}
theorem MV.later(h:MV w0 wr q n b ob lb lv L os ov orb rv reps vals mb){w':World}(hx:Ex wr w'):MV w0 w' q n b ob lb lv L os ov orb rv reps vals mb:=
 ⟨hx.cell h.oc0,hx.cell h.oc1,hx.frz h.oc1 h.of1,hx.cell h.lc0,hx.cell h.lc1,hx.cell h.lc2,hx.frz h.lc1 h.lf1,hx.frz h.lc2 h.lf2,h.ne,h.ch.ex hx,Ai h.ovo hx,Ai h.rvo hx,fun i r u a c=>(h.rows i r u a c).mx (Mx.ofEx hx (q :: mb)),h.a1,h.a2,h.a3,h.nov,h.nrv,h.nlv,h.om,h.ql,h.lm,fun B hB=>⟨(h.lo B hB).1,Nat.lt_of_lt_of_le (h.lo B hB).2 hx.size⟩,h.ex.trans hx⟩
theorem zb2{P:Prop}(h:P:=by
 rw[World.cell?_setCell_other _ _ _ _ (by intro e;injection e with e;exact h.ne e.symm)];exact k):P:=h
theorem zb5{P:Prop}(h:P:=by
 rcases List.mem_append.1 hB with h1|h1
 .exact ha.own.lt B (by simpa using h1)
 .exact za0):P:=h
theorem MV.appOrb(h:MV w0 wr q n b ob lb lv L os ov orb rv reps vals mb){w1:World}{ov':Value}{x:Int}(ha:Bt wr w1 w0.heap.size 3 1 ov ov' orb.length (Ap orb) [.int .i64 x]):
  ∃aH,MV w0 (w1.setCell (lb,1) ov') q n b ob lb lv L os ov' (orb ++ [x]) rv reps vals aH/\Mx mb aH wr (w1.setCell (lb,1) ov'):=by
 have aF:=RM (j:=1) (u:=ov') ha (fun B e=>(h.nov B e).2.2) h.lm;have aK:(w1.setCell (lb,1) ov').heap.size=w1.heap.size:=cd;have hgs:=ha.grow;have aB:some ob≠ov.ownBlock:=fun e=>(h.nov ob e.symm).1 rfl;have aA:some lb≠ov.ownBlock:=fun e=>(h.nov lb e.symm).2.1 rfl;have obl:=(h.lo ob h.om).2;have lbl:=(h.lo lb h.lm).2;have aG:∀B,ov'.ownBlock=some B->B≠ob/\B≠lb:=fun B e=>by
  rcases ha.at_ with h1|h1
  .rw[h1]at e;exact⟨(h.nov B e).1,(h.nov B e).2.1⟩
  .rw[h1]at e;injection e with e;omega
 have aC:∀ {j:Nat} {v:Value},w1.cell? (ob,j)=some v->(w1.setCell (lb,1) ov').cell? (ob,j)=some v:=fun k=>by
  exact zb2
 have aD:∀ {j:Nat} {v:Value},1≠j->w1.cell? (lb,j)=some v->(w1.setCell (lb,1) ov').cell? (lb,j)=some v:=fun hj k=>by
  rw[Ag hj];exact k
 have aE:∀ {e:TypeId} {size:Nat} {v:Value} {m:Nat} {xs:List Value},wr.ownsRow w0.heap.size e size v m xs->AT v ov->(∀B,v.ownBlock=some B->B≠lb)->(w1.setCell (lb,1) ov').ownsRow w0.heap.size e size v m xs/\AT v ov':=fun k hk hb=>
  ⟨Ac (ha.row k hk).1 (fun e=>hb _ e rfl) _,(ha.row k hk).2⟩
 have aJ:=aE h.ch.own h.a1.symm (fun B e=>(h.nlv B e).2.1);have aI:=aE h.rvo h.a3.symm (fun B e=>(h.nrv B e).2.1);refine⟨ov'.ownBlock.toList++mb,⟨aC (ha.cell h.oc0 aB),aC (ha.cell h.oc1 aB),by rw[F7];exact ha.frz h.oc1 h.of1 aB,aD ae (ha.cell h.lc0 aA),?_,aD ae (ha.cell h.lc2 aA),by rw[F7];exact ha.frz h.lc1 h.lf1 aA,by rw[F7];exact ha.frz h.lc2 h.lf2 aA,h.ne,h.ch.mx aF aJ.1 (fun B e=>List.mem_append_right _ (h.nlv B e).2.2),?_,aI.1,fun i r u a c=>(h.rows i r u a c).mx (aF.cons q),aJ.2.symm,h.a2,aI.2.symm,fun B e=>⟨(aG B e).1,(aG B e).2,List.mem_append_left _ (by rw[e];simp)⟩,fun B e=>⟨(h.nrv B e).1,(h.nrv B e).2.1,List.mem_append_right _ (h.nrv B e).2.2⟩,fun B e=>⟨(h.nlv B e).1,(h.nlv B e).2.1,List.mem_append_right _ (h.nlv B e).2.2⟩,List.mem_append_right _ h.om,h.ql,List.mem_append_right _ h.lm,fun B hB=>?_,aF.ex h.ex (fun B hB=>(h.lo B hB).1)⟩,aF⟩
 .exact World.cell?_setCell_same _ _ _ (ha.cell h.lc1 aA)
 .have:=ha.own;rw[List.length_append];exact Ac (by simpa[Ap]using this) (fun e=>(aG _ e).2 rfl) _
 .rw[aK];exact zb5
theorem MV.appRep(h:MV w0 wr q n b ob lb lv L os ov orb rv reps vals mb){w1:World}{rv' z:Value}{r:List Int}(hz:SI wr (q :: mb) z r)(ha:Bt wr w1 w0.heap.size 22 1 rv rv' reps.length vals [z]):
  ∃aH,MV w0 (w1.setCell (lb,2) rv') q n b ob lb lv L os ov orb rv' (reps ++ [r]) (vals ++ [z]) aH/\Mx mb aH wr (w1.setCell (lb,2) rv'):=by
 have aF:=RM (j:=2) (u:=rv') ha (fun B e=>(h.nrv B e).2.2) h.lm;have aM:(w1.setCell (lb,2) rv').heap.size=w1.heap.size:=cd;have hgs:=ha.grow;have aB:some ob≠rv.ownBlock:=fun e=>(h.nrv ob e.symm).1 rfl;have aA:some lb≠rv.ownBlock:=fun e=>(h.nrv lb e.symm).2.1 rfl;have obl:=(h.lo ob h.om).2;have lbl:=(h.lo lb h.lm).2;have aG:∀B,rv'.ownBlock=some B->B≠ob/\B≠lb:=fun B e=>by
  rcases ha.at_ with h1|h1
  .rw[h1]at e;exact⟨(h.nrv B e).1,(h.nrv B e).2.1⟩
  .rw[h1]at e;injection e with e;omega
 have aC:∀ {j:Nat} {v:Value},w1.cell? (ob,j)=some v->(w1.setCell (lb,2) rv').cell? (ob,j)=some v:=fun k=>by
  exact zb2
 have aD:∀ {j:Nat} {v:Value},2≠j->w1.cell? (lb,j)=some v->(w1.setCell (lb,2) rv').cell? (lb,j)=some v:=fun hj k=>by
  rw[Ag hj];exact k
 have aE:∀ {e:TypeId} {size:Nat} {v:Value} {m:Nat} {xs:List Value},wr.ownsRow w0.heap.size e size v m xs->AT v rv->(∀B,v.ownBlock=some B->B≠lb)->(w1.setCell (lb,2) rv').ownsRow w0.heap.size e size v m xs/\AT v rv':=fun k hk hb=>
  ⟨Ac (ha.row k hk).1 (fun e=>hb _ e rfl) _,(ha.row k hk).2⟩
 have aK:=aE h.ch.own h.a2.symm (fun B e=>(h.nlv B e).2.1);have aI:=aE h.ovo h.a3 (fun B e=>(h.nov B e).2.1);have aL:vals.length=reps.length:=by have:=h.rvo.1;omega
 refine⟨rv'.ownBlock.toList++mb,⟨aC (ha.cell h.oc0 aB),aC (ha.cell h.oc1 aB),by rw[F7];exact ha.frz h.oc1 h.of1 aB,aD ae (ha.cell h.lc0 aA),aD ae (ha.cell h.lc1 aA),?_,by rw[F7];exact ha.frz h.lc1 h.lf1 aA,by rw[F7];exact ha.frz h.lc2 h.lf2 aA,h.ne,h.ch.mx aF aK.1 (fun B e=>List.mem_append_right _ (h.nlv B e).2.2),aI.1,?_,fun i r' u a c=>?_,h.a1,aK.2.symm,aI.2,fun B e=>⟨(h.nov B e).1,(h.nov B e).2.1,List.mem_append_right _ (h.nov B e).2.2⟩,fun B e=>⟨(aG B e).1,(aG B e).2,List.mem_append_left _ (by rw[e];simp)⟩,fun B e=>⟨(h.nlv B e).1,(h.nlv B e).2.1,List.mem_append_right _ (h.nlv B e).2.2⟩,List.mem_append_right _ h.om,h.ql,List.mem_append_right _ h.lm,fun B hB=>?_,aF.ex h.ex (fun B hB=>(h.lo B hB).1)⟩,aF⟩
 .exact World.cell?_setCell_same _ _ _ (ha.cell h.lc2 aA)
 .have:=ha.own;rw[List.length_append];exact Ac this (fun e=>(aG _ e).2 rfl) _
 .by_cases hi:i<reps.length
  .rw[List.getElem?_append_left hi]at a;rw[List.getElem?_append_left ac]at c;exact(h.rows i r' u a c).mx (aF.cons q)
  .rw[List.getElem?_append_right ac]at a;rw[List.getElem?_append_right ac]at c;have aJ:i-reps.length=0:=by
    exact zc0
   rw[aJ]at a;rw[aL,aJ]at c;simp at a c;subst a c;exact hz.mx (aF.cons q)
 .rw[aM];exact zb5
end
structure ChS(w0 wr:World)(q n ob:Nat)(lv:Value)(L:List Lv)(os:List (Value × Value))(mb:List Nat):Prop where
 oc0:wr.cell? (ob,0)=some (.int .i64 n)
 oc1:wr.cell? (ob,1)=some lv
 of1:wr.frozen? (ob,1)=false
 ch:Yp wr w0.heap.size q mb lv L os
 nlv:∀B,lv.ownBlock=some B->B≠ob
 om:ob∈mb
 ql:q<w0.heap.size
 lo:∀B∈mb,w0.heap.size<=B/\B<wr.heap.size
 ex:Ex w0 wr
theorem ChS.begin_{w0 wr:World}{q n b ob:Nat}{lv:Value}{L:List Lv}{os:List (Value × Value)}{mb:List Nat}(h:ChS w0 wr q n ob lv L os mb):
  MV w0 (wr.alloc (.cells #[b,.slice none 0 0,.slice none 0 0] 90)) q n b ob wr.heap.size lv L os (.slice none 0 0) [] (.slice none 0 0) [] [] (wr.heap.size :: mb)/\Mx mb (wr.heap.size :: mb) wr (wr.alloc (.cells #[b,.slice none 0 0,.slice none 0 0] 90)):=by
 have hx:Ex wr (wr.alloc (.cells #[b,.slice none 0 0,.slice none 0 0] 90)):=(Ex.refl _).alloc _;have aB:(wr.alloc (.cells #[b,.slice none 0 0,.slice none 0 0] 90)).heap.size=wr.heap.size+1:=ag;have aA:Mx mb (wr.heap.size :: mb) wr (wr.alloc (.cells #[b,.slice none 0 0,.slice none 0 0] 90)):=by
  refine⟨hx.os,hx.tape,hx.output,hx.size,fun i hi _=>hx.block i hi,fun B hB=>?_⟩;rcases List.mem_cons.1 hB with e|e
  .exact .inr ac
  .exact .inl e
 have hob:=(h.lo ob h.om).2;refine⟨⟨hx.cell h.oc0,hx.cell h.oc1,hx.frz h.oc1 h.of1,ag,ag,ag,ag,ag,ac,h.ch.mx aA (Ai h.ch.own hx) (fun B e=>List.mem_cons_of_mem _ (h.ch.blk B e)),World.ownsRow_nil _ _ _ _,World.ownsRow_nil _ _ _ _,fun i r u a=>by simp at a,AT.nil _,AT.nil _,AT.nil _,fun B e=>(by cases e),fun B e=>(by cases e),fun B e=>⟨h.nlv B e,by have:=(h.lo B (h.ch.blk B e)).2;omega,List.mem_cons_of_mem _ (h.ch.blk B e)⟩,List.mem_cons_of_mem _ h.om,h.ql,List.mem_cons_self ..,fun B hB=>?_,h.ex.trans hx⟩,aA⟩;rw[aB];rcases List.mem_cons.1 hB with e|e
 .subst e;have:=h.ex.size;omega
 .have:=h.lo B e;omega
theorem MV.drop{w0 wr:World}{q n b ob lb:Nat}{lv:Value}{L:List Lv}{os:List (Value × Value)}{ov:Value}{orb:List Int}{rv:Value}{reps:List (List Int)}{vals:List Value}{mb:List Nat}(h:MV w0 wr q n b ob lb lv L os ov orb rv reps vals mb):ChS w0 wr q n ob lv L os mb:=
 ⟨h.oc0,h.oc1,h.of1,h.ch,fun B e=>(h.nlv B e).1,h.om,h.ql,h.lo,h.ex⟩
theorem MV.keep{w0 wr:World}{q n b ob lb:Nat}{lv:Value}{L:List Lv}{os:List (Value × Value)}{ov:Value}{orb:List Int}{rv:Value}{reps:List (List Int)}{vals:List Value}{mb:List Nat}(h:MV w0 wr q n b ob lb lv L os ov orb rv reps vals mb){w1:World}{aA:Value}
  (ha:Bt wr w1 w0.heap.size 90 3 lv aA L.length (RT L os) [.int .i64 b,ov,rv]):
  ∃mb',ChS w0 (w1.setCell (ob,1) aA) q n ob aA (L ++ [⟨b,orb,reps⟩]) (os ++ [(ov,rv)]) mb':=by
 have aB:Mx mb (ob :: lv.ownBlock.toList) wr wr:=⟨rfl,rfl,rfl,Nat.le_refl _,fun _ _ _=>rfl,fun B hB=>by
  rcases List.mem_cons.1 hB with e|e
  .subst e;exact .inl h.om
  .exact .inl (h.nlv B (by simpa using e)).2.2⟩
 have aF:=RM (mb:=ob :: lv.ownBlock.toList) (j:=1) (u:=aA) (cb:=ob) ha (fun B e=>List.mem_cons_of_mem _ (by rw[e];simp)) (List.mem_cons_self ..);have aI:(w1.setCell (ob,1) aA).heap.size=w1.heap.size:=by simp[World.setCell]
 have hgs:=ha.grow;have aC:some ob≠lv.ownBlock:=fun e=>(h.nlv ob e.symm).1 rfl;have obl:=(h.lo ob h.om).2;have aH:∀B,aA.ownBlock=some B->B≠ob:=fun B e=>by
  rcases ha.at_ with h1|h1
  .rw[h1]at e;exact(h.nlv B e).1
  .rw[h1]at e;injection e with e;omega
 have aE:∀B,ov.ownBlock=some B->B ∉ ob :: lv.ownBlock.toList:=fun B e hm=>by
  rcases List.mem_cons.1 hm with e2|e2
  .exact(h.nov B e).1 e2
  .have e2:lv.ownBlock=some B:=by simpa using e2
   rcases h.a1 with k|k
   .rw[k]at e;cases e
   .exact k (by rw[e,e2])
 have aD:∀B,rv.ownBlock=some B->B ∉ ob :: lv.ownBlock.toList:=fun B e hm=>by
  rcases List.mem_cons.1 hm with e2|e2
  .exact(h.nrv B e).1 e2
  .have e2:lv.ownBlock=some B:=by simpa using e2
   rcases h.a2 with k|k
   .rw[k]at e;cases e
   .exact k (by rw[e,e2])
 have aK:SI wr (q :: ob :: lv.ownBlock.toList) ov orb:=⟨Sl.own h.ovo,fun _ B e=>⟨fun hm=>by
  rcases List.mem_cons.1 hm with e2|e2
  .have:=(h.ovo.lt B e).1;have:=h.ql;omega
  .exact aE B e e2,(h.ovo.lt B e).2⟩⟩
 have aJ:SM wr (q :: ob :: lv.ownBlock.toList) rv reps vals:=⟨Sl.own h.rvo,fun _ B e=>⟨fun hm=>by
  rcases List.mem_cons.1 hm with e2|e2
  .have:=(h.rvo.lt B e).1;have:=h.ql;omega
  .exact aD B e e2,(h.rvo.lt B e).2⟩,fun i r u a c=>(h.rows i r u a c).mx (aB.cons q)⟩
 refine⟨aA.ownBlock.toList++(ob :: lv.ownBlock.toList),?_,?_,by rw[F7];exact ha.frz h.oc1 h.of1 aC,⟨?_,by simp[h.ch.len],fun i l o a c=>?_,fun B e=>List.mem_append_left _ (by rw[e];simp)⟩,aH,List.mem_append_right _ (List.mem_cons_self ..),h.ql,fun B hB=>?_,aF.ex h.ex (fun B hB=>?_)⟩
 .rw[Ag ae];exact ha.cell h.oc0 aC
 .exact World.cell?_setCell_same _ _ _ (ha.cell h.oc1 aC)
 .rw[Tq L os ⟨b,orb,reps⟩ (ov,rv) h.ch.len,List.length_append];exact Ac ha.own (fun e=>aH _ e rfl) _
 .by_cases hi:i<L.length
  .rw[List.getElem?_append_left hi]at a;rw[List.getElem?_append_left (by have:=h.ch.len;omega)]at c;obtain⟨k1,v2,k2⟩:=h.ch.lev i l o a c;exact⟨(k1.mx (aB.cons q)).mx (aF.cons q),v2,(k2.mx (aB.cons q)).mx (aF.cons q)⟩
  .rw[List.getElem?_append_right ac]at a;rw[List.getElem?_append_right (by have:=h.ch.len;omega)]at c;have aG:i-L.length=0:=by
    exact zc0
   rw[aG]at a;rw[h.ch.len,aG]at c;simp at a c;subst a c;exact⟨aK.mx (aF.cons q),vals,aJ.mx (aF.cons q)⟩
 .rw[aI];rcases List.mem_append.1 hB with h1|h1
  .exact ha.own.lt B bt
  .rcases List.mem_cons.1 h1 with e|e
   .subst e;exact⟨(h.lo B h.om).1,ac⟩
   .have:=h.lo B (h.nlv B (by simpa using e)).2.2;exact⟨this.1,ac⟩
 .rcases List.mem_cons.1 hB with e|e
  .subst e;exact(h.lo B h.om).1
  .exact(h.lo B (h.nlv B (by simpa using e)).2.2).1
theorem ChS.o{w0 wr:World}{q n ob:Nat}{lv:Value}{L:List Lv}{os:List (Value × Value)}{mb:List Nat}(h:ChS w0 wr q n ob lv L os mb)(u v:Value):EH ((wr.setCell (q,0) u).setCell (q,1) v) lv L:=by
 have aA:lv.ownBlock≠some q:=fun e=>by
  have:=(h.lo q (h.ch.blk q e)).1;have:=h.ql;omega
 have hM:Mx (q :: mb) (q :: mb) wr ((wr.setCell (q,0) u).setCell (q,1) v):=by
  refine⟨rfl,rfl,rfl,by simp[World.setCell],fun i hi hn=>?_,fun B hB=> .inl hB⟩;have aB:i≠q:=fun e=>hn (by rw[e];exact List.mem_cons_self ..);rw[Below.heap_setCell _ _ _ _ aB,Below.heap_setCell _ _ _ _ aB]
 refine⟨os,h.ch.len,Sl.own (Ac (Ac h.ch.own aA u) aA v),fun i l o a c=>?_⟩;obtain⟨k1,vals,k2⟩:=h.ch.lev i l o a c;exact⟨(k1.mx hM).sl,(k2.mx hM).msl⟩
theorem Wr(p m:Int):0<=CG p m/\CG p m<=256:=by
 unfold CG;split
 .rename_i h;have:0<=p^m.toNat:=Int.pow_nonneg ac;exact⟨this,h.2.2.2⟩
 .omega
theorem smK_le{N q i k:Nat}(h:i<=k):(KP N q i).2<=(KP N q k).2:=by
 induction k with
 | zero=>
   obtain rfl:i=0:=ac;exact Nat.le_refl _
 | succ k ih=>
  by_cases e:i=k+1
  .rw[e];exact Nat.le_refl _
  .refine Nat.le_trans (ih ac) ?_;show _<=(KP N q k).2+_
   omega
theorem Y8{N q:Nat}:∀i,(KP N q i).1<=(KP N q i).2
 | 0=>Nat.le_refl _
 | i+1=>by
  show(KP N q i).1*((N-i)*max 1 (q-1))<=(KP N q i).2+(KP N q i).1*((N-i)*max 1 (q-1))
  omega
theorem Ru(w:World)(c:AZ)(m1 v1:Value)(hc:c.at w m1 v1):
  Calls Tryz.prog 62 #[c.arg m1 v1] w fun r w'=>BolR (Vt c.n (CG c.p c.m).toNat) r/\Ex w w':=by
 obtain⟨c0,c1,c2,c3,c4⟩:=Du w c m1 v1;have HX:=Aa (AI w (c.obj m1 v1));have aO:=Aa (fun w'=>DR c.p c.m m1 w');obtain⟨x1,y1,rfl,-,z1,-⟩:=hc.g.open;obtain⟨x3,y3,rfl,-,z3,-⟩:=hc.m.open;obtain⟨p,m,ml,n,rows⟩:=c;obtain⟨B,hB⟩:=nA w.heap.size;rw[hB]at c0 c1 c2 c3 c4;dsimp only[AZ.arg,AZ.obj]at *;obtain⟨aS,aR⟩:=Wr p m;obtain⟨Q,hQ⟩:∃Q:Nat,CG p m=Q:=⟨(CG p m).toNat,ac⟩;rw[hQ]at aO ⊢;have hQ2:Q<=256:=bu;rw[Int.toNat_natCast];obtain⟨P,hP⟩:=nA (Vt n Q);have HP:=Aa (show P↔(n<1∨7<n->n<1∨64<n)/\(1<=n->n<=7->∀i,i<=n.toNat->(KP n.toNat Q i).2<=3000) from by rw[<-hP];exact Iff.rfl);rw[hP];clear hc hP z1 z3 hQ aS aR;go_enter Tryz.func62,Tryz.ntmps62
 go_upto_region 1 with fail
 try simp only[hB]
 clear hB;generalize w.alloc (.cells #[p,m,.slice x3 ml.length y3,n,.slice x1 rows.length y1] 39)=w1 at *;have aE:=Aa (fun w' (h:Ex w1 w')=>(⟨h.cell c0,h.cell c1,h.cell c2,h.cell c3,h.cell c4⟩:_/\_/\_/\_/\_));by_cases h1:n<1
 .have k1:decide (n<1)=true:=decide_eq_true h1;have HN:=Aa (show P from HP.o.2 ⟨fun _=> .inl h1,fun h=>absurd h ac⟩);clear h1;go_wp2_with fail
  go_ret;exact⟨Mk HN.o,HX.o⟩
 have k1:decide (n<1)=false:=decide_eq_false h1;by_cases h2:7<n
 .have k2:decide (7<n)=true:=decide_eq_true h2;by_cases h3:64<n
  .have k3:decide (64<n)=true:=decide_eq_true h3;have HN:=Aa (show P from HP.o.2 ⟨fun _=> .inr h3,fun _ h=>absurd h ac⟩);clear h1 h2 h3;go_wp2_with fail
   go_ret;exact⟨Mk HN.o,HX.o⟩
  .have k3:decide (64<n)=false:=decide_eq_false h3;have HN:=Aa (show ¬P from fun h=>by rcases (HP.o.1 h).1 (.inr h2) with h|h <;> omega);clear h1 h2 h3;go_wp2_with fail
   go_ret;exact⟨Ue HN.o,HX.o⟩
 have k2:decide (7<n)=false:=decide_eq_false h2;obtain⟨N,rfl⟩:∃N:Nat,n=N:=⟨n.toNat,ac⟩;have aA:=Aa (show 1<=N/\N<=7 from⟨ac,ac⟩);rw[Int.toNat_natCast]at HP;clear h1 h2;go_wp2_with fail
 clear c0 c1 c2 c3 c4
 go_loopw [3,4,5] (fun a' b' i' wr=>∃(i:Nat),i<=N/\a'= .int .i64 (KP N Q i).1/\b'= .int .i64 (KP N Q i).2/\i'= .int .i64 i/\Hia ((KP N Q i).2<=3000)/\Hia (Ex w1 wr)) (fun a' b' i' _=>N-(intOf i').toNat)
 case atStart=>exact⟨0,ac,rfl,rfl,rfl,Aa (by simp[KP]),Aa (Ex.refl w1)⟩
 case round=>
  obtain⟨i,hi,rfl,rfl,rfl,aK,aB⟩:=hrel;obtain⟨c0,c1,c2,c3,c4⟩:=aE.o wr aB.o;by_cases hlt:i<N
  .have i1:(0:Int)<=(i:Int):=by omega
   have i2:(i:Int)<(N:Int):=ac;obtain⟨A,hA⟩:=nA ((KP N Q i).1);obtain⟨S,hS⟩:=nA ((KP N Q i).2);have HA:=Aa hA;have HS:=Aa hS;have aL:=Y8 (N:=N) (q:=Q) i;have aG:=aK.o;rw[hA,hS]at aL;rw[hS]at aG;rw[hA,hS];obtain⟨T,hT⟩:∃T:Nat,max 1 (Q-1)=T:=⟨_,rfl⟩;have aT:1<=T/\T<=255:=ac;obtain⟨D,hD⟩:∃D:Nat,N-i=D:=⟨_,rfl⟩;have hDi:(N:Int)-(i:Int)=(D:Int):=ac;have aU:D<=7:=by have:=aA.o;omega
   have aN:D*T<=1785:=Nat.mul_le_mul aU aT.2;have aF:A*(D*T)<=3000*1785:=Nat.mul_le_mul ac aN;have hmx:(if (1:Int)<(Q:Int)-1 then(Q:Int)-1 else 1)=(T:Int):=by split <;> omega
   have hmy:max (1:Int) ((Q:Int)-1)=(T:Int):=by omega
   have aD:=Aa (show(KP N Q (i+1)).1=A*(D*T)/\(KP N Q (i+1)).2=S+A*(D*T) from by
    rw[<-hA,<-hS,<-hD,<-hT];exact⟨rfl,rfl⟩)
   obtain⟨M,hM⟩:∃M:Nat,A*(D*T)=M:=⟨_,rfl⟩;have aM:(A:Int)*((D:Int)*(T:Int))=(M:Int):=by rw[<-hM];push_cast;rfl
   rw[hM]at aD aF;have aI:=Aa (fun w' (h:Ex wr w')=>aO.o w');have aP:=Aa (fun w' (h:Ex wr w')=>aE.o w' (aB.o.trans h));clear hA hS hT hD aL;have W1:=Aa (show IntKind.i64.wrap (D:Int)=(D:Int) from IntWalk.i64_in _ ac);have W2:=Aa (show IntKind.i64.wrap ((Q:Int)-1)=(Q:Int)-1 from IntWalk.i64_in _ ac);have aC:(D:Int)*(T:Int)=((D*T:Nat):Int):=by push_cast;rfl
   have W3:=Aa (show IntKind.i64.wrap ((D:Int)*(T:Int))=(D:Int)*(T:Int) from IntWalk.i64_in _ (by rw[aC];omega));have W4:=Aa (show IntKind.i64.wrap ((A:Int)*((D:Int)*(T:Int)))=(M:Int) from by rw[aM];exact IntWalk.i64_in _ ac);have HB:=Aa (show S<=3000/\M<=3000*1785 from⟨aG,aF⟩);clear aM aC hM aF aN;go_upto_region 7 with fail
   go_cut [3] from 28 to 39 (fun a wx=>a= .int .i64 (M:Int)/\Hia (Ex wr wx))
   case first=>
    have y1:=W1.o;have y2:=W2.o;have y3:=W3.o;have y4:=W4.o
    go_region_law ((go_simp;refine(aI.o _ (by repeat (first|exact Ex.refl _|apply Ex.drew))).mono ?_;rintro e w5⟨rfl,aQ⟩;have aH:=Aa (Ex.trans (show Ex wr _ by repeat (first|exact Ex.refl _|apply Ex.drew)) aQ);have z0:=(aP.o w5 aH.o).1;have z3:=(aP.o w5 aH.o).2.2.2.1;go_simp))
    all_goals go_wp2_with fail
    all_goals go_meet
    all_goals exact⟨br,Aa (by repeat (first|exact aH.o|apply Ex.drew))⟩
   case rest=>
    obtain⟨rfl,aJ⟩:=hcut;obtain⟨aG,aF⟩:=HB.o;have hi7:i<=7:=by have:=aA.o;omega
    clear c0 c1 c2 c3 c4;by_cases h5:3000<S+M
    .have k5:decide ((3000:Int)<(S:Int)+(M:Int))=true:=decide_eq_true ac;have j5:(3000:Int)<(S:Int)+(M:Int):=by omega
     have HN:=Aa (show ¬P from fun h=>by
      have:=(HP.o.1 h).2 (by have:=aA.o;omega) (by have:=aA.o;omega) (i+1) ac;rw[aD.o.2]at this;omega)
     clear h5;go_wp2_with fail
     go_ret;exact⟨Ue HN.o,HX.o.trans (aB.o.trans aJ.o)⟩
    .have k5:decide ((3000:Int)<(S:Int)+(M:Int))=false:=decide_eq_false ac;have j5:¬(3000:Int)<(S:Int)+(M:Int):=by omega
     have HL:=Aa (show(KP N Q (i+1)).2<=3000 from by rw[aD.o.2];omega);clear h5;go_wp2_with fail
     go_roundw
     case rel=>exact⟨i+1,ac,by rw[aD.o.1],by rw[aD.o.2];go_num,by go_num,HL,Aa (aB.o.trans aJ.o)⟩
     case measure=>simp[intOf];omega
  .obtain rfl:i=N:=by omega
   have HN:=Aa (show P from HP.o.2 ⟨fun h=>by have:=aA.o;omega,fun _ _ k hk=>Nat.le_trans (smK_le hk) aK.o⟩);go_wp2_with fail
   go_ret;exact⟨Mk HN.o,HX.o.trans aB.o⟩
end Go.Proofs.YtehieobniamagaaGreat
