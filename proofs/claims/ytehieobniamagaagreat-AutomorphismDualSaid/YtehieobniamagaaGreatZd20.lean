/- Walk of automorphism.goals. -/
import Derived.Test.YtehieobniamagaaGreatZd19
namespace Go.Proofs.YtehieobniamagaaGreat
open Go.RowKit
set_option linter.all false
set_option maxRecDepth 100000
set_option maxHeartbeats 2000000
theorem PD:(Tryz.prog.info? 129).map (fun i=>(i.zero,i.size,i.bytes))=some (some (.agg #[.int .i64 0,.int .i64 0,.int .i64 0,.slice none 0 0,.slice none 0 0]),5,72):=ah
structure B6 where
 i:Nat
 j:Nat
 a:Nat
def KJ(k:Nat):List Int:=(List.range k).map fun (x:Nat)=>(x:Int)
theorem V4(k:Nat):KJ (k+1)=KJ k ++ [(k:Int)]:=by unfold KJ;rw[List.range_succ,List.map_append];rfl
theorem FG(k:Nat):(KJ k).length=k:=by unfold KJ;simp
def Lk(k:Nat):List Int:=List.replicate k 1
theorem Vr(k:Nat):Lk (k+1)=Lk k ++ [(1:Int)]:=by unfold Lk;rw[List.replicate_succ']
theorem Fz(k:Nat):(Lk k).length=k:=by unfold Lk;simp
def B6.tl(g:B6):List Int:=KJ g.i ++ [(g.j:Int)]
def B6.sl(g:B6):List Int:=Lk g.i ++ [(g.a:Int)]
def Fq:List B6->List (Value × Value)->List Value
 | g :: gs,c :: cs=> .int .i64 g.i :: .int .i64 g.j :: .int .i64 g.a :: c.1 :: c.2 :: Fq gs cs
 | _,_=> []
theorem PG:∀(L:List B6) (os:List (Value × Value)) (i:Nat) (l:B6) (o:Value × Value),L[i]?=some l->os[i]?=some o->(Fq L os)[5*i]?=some (.int .i64 l.i)/\(Fq L os)[5*i+1]?=some (.int .i64 l.j)/\(Fq L os)[5*i+2]?=some (.int .i64 l.a)/\(Fq L os)[5*i+3]?=some o.1/\(Fq L os)[5*i+4]?=some o.2
 | l' :: L,o' :: os,0,l,o,h,k=>by
  simp at h k;subst h k;exact⟨rfl,rfl,rfl,rfl,rfl⟩
 | l' :: L,o' :: os,i+1,l,o,h,k=>by
  have:=PG L os i l o az (by simpa using k);rw[show 5*(i+1)=5*i+5 by omega,show 5*i+5+1=5*i+1+5 by omega,show 5*i+5+2=5*i+2+5 by omega,show 5*i+5+3=5*i+3+5 by omega,show 5*i+5+4=5*i+4+5 by omega];simpa[Fq]using this
 | [],os,i,l,o,h,k=>by simp at h
 | l' :: L, [],i,l,o,h,k=>by simp at k
theorem KP:∀(L:List B6) (os:List (Value × Value)) (l:B6) (o:Value × Value),os.length=L.length->Fq (L ++ [l]) (os ++ [o])=Fq L os ++ [.int .i64 l.i,.int .i64 l.j,.int .i64 l.a,o.1,o.2]
 | [], [],l,o,_=>rfl
 | l' :: L,o' :: os,l,o,h=>by
  have:=KP L os l o az;simp only[List.cons_append,Fq,this]
 | [],o' :: os,l,o,h=>by simp at h
 | l' :: L, [],l,o,h=>by simp at h
def W9(b0:Nat)(w:World)(v:Value)(gs:List B6):Prop:=∃cs:List (Value × Value),cs.length=gs.length/\Sl w v gs.length 5 (Fq gs cs)/\∀(i:Nat) (g:B6) (c:Value × Value),gs[i]?=some g->cs[i]?=some c->(Am w c.1 g.tl/\Am w c.2 g.sl)/\(∀X,c.1.ownBlock=some X->b0<=X)/\∀X,c.2.ownBlock=some X->b0<=X
theorem W9.mono{b0 b1:Nat}{w:World}{v:Value}{L:List B6}(h:W9 b0 w v L)(hb:b1<=b0):W9 b1 w v L:=by
 obtain⟨os,h1,h2,h3⟩:=h;exact⟨os,h1,h2,fun i l o a b=>⟨(h3 i l o a b).1,fun X e=>Nat.le_trans hb ((h3 i l o a b).2.1 X e),fun X e=>Nat.le_trans hb ((h3 i l o a b).2.2 X e)⟩⟩
theorem W9.open{b0:Nat}{w:World}{v:Value}{L:List B6}(h:W9 b0 w v L):∃a cap,v= .slice a L.length cap/\L.length<=cap/\cap<=maxLen/\
  (0<L.length->∃b o,a=some ⟨b,o,none⟩/\∀(i:Nat) (l:B6),L[i]?=some l->∃u r,w.cell? ⟨b,o+5*i,none⟩=some (.int .i64 l.i)/\w.cell? ⟨b,o+(5*i+1),none⟩=some (.int .i64 l.j)/\w.cell? ⟨b,o+(5*i+2),none⟩=some (.int .i64 l.a)/\w.cell? ⟨b,o+(5*i+3),none⟩=some u/\w.cell? ⟨b,o+(5*i+4),none⟩=some r/\Am w u l.tl/\Am w r l.sl/\(∀X,u.ownBlock=some X->b0<=X)/\∀X,r.ownBlock=some X->b0<=X):=by
 obtain⟨os,h1,⟨h2,a,cap,h3,h4,h5,h6⟩,h7⟩:=h;refine⟨a,cap,h3,h4,h5,fun hn=>?_⟩;obtain⟨b,o,h8,h9⟩:=h6 hn;refine⟨b,o,h8,fun i l hl=>?_⟩;have hi:=(List.getElem?_eq_some_iff.1 hl).1;have ho:os[i]?=some (os[i]'ac):=List.getElem?_eq_getElem _;obtain⟨g1,g2,g3,g4,g5⟩:=PG L os i l _ hl ho;obtain⟨⟨k1,k2⟩,k3,k4⟩:=h7 i l _ hl ho;exact⟨_,_,h9 _ _ g1,h9 _ _ g2,h9 _ _ g3,h9 _ _ g4,h9 _ _ g5,k1,k2,k3,k4⟩
structure MV(w1 wr:World)(B i j a:Nat)(pv sv:Value)(L0 L1:List Int):Prop where
 c0:wr.cell? ⟨B,0,none⟩=some (.int .i64 i)
 c1:wr.cell? ⟨B,1,none⟩=some (.int .i64 j)
 c2:wr.cell? ⟨B,2,none⟩=some (.int .i64 a)
 b0:wr.cell? ⟨B,3,none⟩=some pv
 b1:wr.cell? ⟨B,4,none⟩=some sv
 f0:wr.frozen? ⟨B,3,none⟩=false
 f1:wr.frozen? ⟨B,4,none⟩=false
 o0:wr.ownsRow w1.heap.size 3 1 pv L0.length (Ao L0)
 o1:wr.ownsRow w1.heap.size 3 1 sv L1.length (Ao L1)
 ap:AQ pv sv
 n0:∀X,pv.ownBlock=some X->X≠B
 n1:∀X,sv.ownBlock=some X->X≠B
 lb:w1.heap.size<=B
 ex:Ex w1 wr
section
variable {w1 wr w':World} {B i j a:Nat} {pv sv v':Value} {L0 L1:List Int} {x:Int}
theorem MV.no0(h:MV w1 wr B i j a pv sv L0 L1):some B≠pv.ownBlock:=fun e=>h.n0 B e.symm rfl
theorem MV.no1(h:MV w1 wr B i j a pv sv L0 L1):some B≠sv.ownBlock:=fun e=>h.n1 B e.symm rfl
theorem MV.at0(h:MV w1 wr B i j a pv sv L0 L1)(ha:Bn wr w' w1.heap.size 3 1 pv v' L0.length (Ao L0) [.int .i64 x]):
  w'.cell? ⟨B,3,none⟩=some pv/\w'.frozen? ⟨B,3,none⟩=false:=⟨ha.cell h.b0 h.no0,ha.frz h.b0 h.f0 h.no0⟩
theorem MV.at1(h:MV w1 wr B i j a pv sv L0 L1)(ha:Bn wr w' w1.heap.size 3 1 sv v' L1.length (Ao L1) [.int .i64 x]):
  w'.cell? ⟨B,4,none⟩=some sv/\w'.frozen? ⟨B,4,none⟩=false:=⟨ha.cell h.b1 h.no1,ha.frz h.b1 h.f1 h.no1⟩
theorem MV.app0(h:MV w1 wr B i j a pv sv L0 L1)(ha:Bn wr w' w1.heap.size 3 1 pv v' L0.length (Ao L0) [.int .i64 x]):
  MV w1 (w'.setCell ⟨B,3,none⟩ v') B i j a v' sv (L0 ++ [x]) L1:=by
 have hn:=GT.blk ha h.c0 h.n0;have hr:=ha.row h.o1 h.ap.symm;refine⟨?_,?_,?_,World.cell?_setCell_same _ _ _ (ha.cell h.b0 h.no0),?_,?_,?_,?_,?_,hr.2.symm,hn,h.n1,h.lb,(ha.ex h.ex (Nat.le_refl _)).setCell (p:=⟨B,3,none⟩) h.lb _⟩
 .rw[Af ae];exact ha.cell h.c0 h.no0
 .rw[Af ae];exact ha.cell h.c1 h.no0
 .rw[Af ae];exact ha.cell h.c2 h.no0
 .rw[Af ae];exact ha.cell h.b1 h.no0
 .rw[Ay];exact ha.frz h.b0 h.f0 h.no0
 .rw[Ay];exact ha.frz h.b1 h.f1 h.no0
 .have:=Ac (a:=⟨B,3,none⟩) ha.own (fun e=>hn B e rfl) v';exact zbV
 .exact Ac (a:=⟨B,3,none⟩) hr.1 (fun e=>h.n1 B e rfl) v'
theorem MV.app1(h:MV w1 wr B i j a pv sv L0 L1)(ha:Bn wr w' w1.heap.size 3 1 sv v' L1.length (Ao L1) [.int .i64 x]):
  MV w1 (w'.setCell ⟨B,4,none⟩ v') B i j a pv v' L0 (L1 ++ [x]):=by
 have hn:=GT.blk ha h.c0 h.n1;have hr:=ha.row h.o0 h.ap;refine⟨?_,?_,?_,?_,World.cell?_setCell_same _ _ _ (ha.cell h.b1 h.no1),?_,?_,?_,?_,hr.2,h.n0,hn,h.lb,(ha.ex h.ex (Nat.le_refl _)).setCell (p:=⟨B,4,none⟩) h.lb _⟩
 .rw[Af ae];exact ha.cell h.c0 h.no1
 .rw[Af ae];exact ha.cell h.c1 h.no1
 .rw[Af ae];exact ha.cell h.c2 h.no1
 .rw[Af ae];exact ha.cell h.b0 h.no1
 .rw[Ay];exact ha.frz h.b0 h.f0 h.no1
 .rw[Ay];exact ha.frz h.b1 h.f1 h.no1
 .exact Ac (a:=⟨B,4,none⟩) hr.1 (fun e=>h.n0 B e rfl) v'
 .have:=Ac (a:=⟨B,4,none⟩) ha.own (fun e=>hn B e rfl) v';exact zbW
end
theorem MV.new(w1:World)(i j a:Nat):MV w1 (w1.alloc (.cells #[.int .i64 i,.int .i64 j,.int .i64 a,.slice none 0 0,.slice none 0 0] 129)) w1.heap.size i j a (.slice none 0 0) (.slice none 0 0) [] []:=
 ⟨ag,ag,ag,ag,ag,ag,ag,World.ownsRow_nil _ _ _ _,World.ownsRow_nil _ _ _ _,AQ.nil _,by simp[Value.ownBlock],by simp[Value.ownBlock],Nat.le_refl _,(Ex.refl _).alloc _⟩
structure OF(w1 wr:World)(v:Value)(gs:List B6)(cs:List (Value × Value)):Prop where
 ex:Ex w1 wr
 len:cs.length=gs.length
 own:wr.ownsRow w1.heap.size 129 5 v gs.length (Fq gs cs)
 at_:∀(i:Nat) (g:B6) (c:Value × Value),gs[i]?=some g->cs[i]?=some c->(wr.ownsRow w1.heap.size 3 1 c.1 g.tl.length (Ao g.tl)/\AQ c.1 v)/\(wr.ownsRow w1.heap.size 3 1 c.2 g.sl.length (Ao g.sl)/\AQ c.2 v)
section
variable {w1 wr w' w0:World} {v v' pv sv:Value} {gs:List B6} {cs:List (Value × Value)} {B:Nat}
theorem OF.nil(h:Ex w1 wr):OF w1 wr (.slice none 0 0) [] []:=⟨h,rfl,World.ownsRow_nil _ _ _ _,fun i x c h=>by simp at h⟩
theorem OF.later(h:OF w1 wr v gs cs)(hx:Ex wr w'):OF w1 w' v gs cs:=
 ⟨h.ex.trans hx,h.len,Aj h.own hx,fun i x c a b=>⟨⟨Aj (h.at_ i x c a b).1.1 hx,(h.at_ i x c a b).1.2⟩,⟨Aj (h.at_ i x c a b).2.1 hx,(h.at_ i x c a b).2.2⟩⟩⟩
theorem OF.gsl(h:OF w1 wr v gs cs):W9 w1.heap.size wr v gs:=⟨cs,h.len,Sl.own h.own,fun i x c a b=>⟨⟨Sl.own (h.at_ i x c a b).1.1,Sl.own (h.at_ i x c a b).2.1⟩,fun X e=>((h.at_ i x c a b).1.1.lt X e).1,fun X e=>((h.at_ i x c a b).2.1.lt X e).1⟩⟩
theorem zcT{P:Prop}(h:P:=by
 have:=(List.getElem?_eq_some_iff.1 a).1;simp at this;omega):P:=h
theorem d9{P:Prop}(h:P:=by rw[h.len];exact hi):P:=h
theorem OF.app(h:OF w1 wr v gs cs){g:B6}(hx:MV w0 wr B g.i g.j g.a pv sv g.tl g.sl)(h0:∀X,v.ownBlock=some X->X<w0.heap.size)(hw:w1.heap.size<=w0.heap.size)
  (ha:Bn wr w' w1.heap.size 129 5 v v' gs.length (Fq gs cs) [.int .i64 g.i,.int .i64 g.j,.int .i64 g.a,pv,sv]):OF w1 w' v' (gs ++ [g]) (cs ++ [(pv,sv)]):=by
 refine⟨ha.ex h.ex (Nat.le_refl _),by simp[h.len],?_,fun i x c a b=>?_⟩
 .have:=ha.own;rw[KP gs cs g (pv,sv) h.len,List.length_append];exact this
 .by_cases hi:i<gs.length
  .rw[List.getElem?_append_left hi]at a;rw[List.getElem?_append_left d9]at b;obtain⟨⟨p1,p2⟩,⟨p3,p4⟩⟩:=h.at_ i x c a b;exact⟨ha.row p1 p2,ha.row p3 p4⟩
  .have aA:i=gs.length:=by
    exact zcT
   subst aA;rw[List.getElem?_append_right (Nat.le_refl _)]at a;rw[List.getElem?_append_right (by rw[h.len];exact Nat.le_refl _),h.len]at b;simp at a b;subst a b;exact⟨ha.row (Fy hx.o0 hw) (Gp (fun X e=>(hx.o0.lt X e).1) h0),ha.row (Fy hx.o1 hw) (Gp (fun X e=>(hx.o1.lt X e).1) h0)⟩
end
def gA(i j c:Nat):List B6:=(List.range c).map fun a=>⟨i,j,a+1⟩
def gJ(q i k:Nat):List B6:=(List.range k).flatMap fun j=>gA i (i+j) (q-1)
def gI(n q k:Nat):List B6:=(List.range k).flatMap fun i=>gJ q i (n-i)
def Dn(n q:Nat):List B6:=gI n q n
theorem YO(i j c:Nat):gA i j (c+1)=gA i j c ++ [⟨i,j,c+1⟩]:=by unfold gA;rw[List.range_succ,List.map_append];rfl
theorem NR(q i k:Nat):gJ q i (k+1)=gJ q i k++gA i (i+k) (q-1):=by unfold gJ;rw[List.range_succ,List.flatMap_append];simp
theorem NU(n q k:Nat):gI n q (k+1)=gI n q k++gJ q k (n-k):=by unfold gI;rw[List.range_succ,List.flatMap_append];simp
theorem Rp(i j c:Nat):(gA i j c).length=c:=by unfold gA;simp
theorem Ro(q i:Nat)(hq:q<=256):∀k,(gJ q i k).length<=k*256
 | 0=>by unfold gJ;simp
 | k+1=>by
  rw[NR,List.length_append,Rp];have:=Ro q i hq k;omega
theorem NV(n q:Nat)(hn:n<=64)(hq:q<=256):∀k,(gI n q k).length<=k*16384
 | 0=>by unfold gI;simp
 | k+1=>by
  rw[NU,List.length_append];have:=NV n q hn hq k;have:=Ro q k hq (n-k);omega
structure Mx(mb mb':List Nat)(w w':World):Prop where
 os:w'.os=w.os
 tape:w'.tape=w.tape
 output:w'.output=w.output
 size:w.heap.size<=w'.heap.size
 block:∀i,i<w.heap.size->i ∉ mb->w'.heap[i]?=w.heap[i]?
 mb:∀B∈mb',B∈mb∨w.heap.size<=B
theorem Mx.ofEx{w w':World}(h:Ex w w')(mb:List Nat):Mx mb mb w w':=⟨h.os,h.tape,h.output,h.size,fun i hi _=>h.block i hi,fun B h=> .inl h⟩
theorem Mx.trans{a b c:List Nat}{u v w:World}(h:Mx a b u v)(k:Mx b c v w):Mx a c u w:=
 ⟨k.os.trans h.os,k.tape.trans h.tape,k.output.trans h.output,Nat.le_trans h.size k.size,fun i hi hn=>by
  rw[k.block i (Nat.lt_of_lt_of_le hi h.size) (fun hb=>by
   rcases h.mb i hb with h1|h1
   .exact hn h1
   .omega),h.block i hi hn],fun B hB=>by
  rcases k.mb B hB with h1|h1
  .exact h.mb B h1
  .exact .inr (Nat.le_trans h.size h1)⟩
theorem Mx.ex{mb aA:List Nat}{w0 w w':World}(h:Mx mb aA w w')(hx:Ex w0 w)(hb:∀B∈mb,w0.heap.size<=B):Ex w0 w':=
 ⟨h.os.trans hx.os,h.tape.trans hx.tape,h.output.trans hx.output,Nat.le_trans hx.size h.size,fun i hi=>by
  rw[h.block i (Nat.lt_of_lt_of_le hi hx.size) (fun h1=>by have:=hb i h1;omega)];exact hx.block i hi⟩
theorem Mx.cell{mb aA:List Nat}{w w':World}(h:Mx mb aA w w'){a:Addr}{u:Value}(hc:w.cell? a=some u)(hn:a.block ∉ mb):w'.cell? a=some u:=by
 rw[<-hc];exact World.cell?_of_block (h.block a.block (World.block_lt_of_cell? _ _ hc) hn)
structure Cv(w:World)(mb:List Nat)(n:Nat)(u:Value)(f:Nat->Nat):Prop where
 sl:Am w u (li n f)
 at_:∃b o cap,u= .slice (some ⟨b,o,none⟩) n cap/\cap<=maxLen/\b ∉ mb/\b<w.heap.size/\∀j,j<n->w.cell? ⟨b,o+j,none⟩=some (.int .i64 (f j:Int))
theorem Cv.of{w:World}{mb:List Nat}{n:Nat}{u:Value}{f:Nat->Nat}(h:Am w u (li n f))(hn:1<=n)(hb:∀B,u.ownBlock=some B->B ∉ mb):Cv w mb n u f:=by
 refine⟨h,?_⟩;obtain⟨a,cap,rfl,h1,h2,h3⟩:=E9 h;obtain⟨b,o,rfl,h4⟩:=h3 hn;exact⟨b,o,cap,rfl,h2,hb b rfl,World.block_lt_of_cell? _ _ (h4 0 hn),h4⟩
theorem Cv.mx{mb aA:List Nat}{w w':World}{n:Nat}{u:Value}{f:Nat->Nat}(h:Cv w mb n u f)(hx:Mx mb aA w w'):Cv w' aA n u f:=by
 obtain⟨b,o,cap,rfl,h1,h2,h3,h4⟩:=h.at_;have hs:Am w' (.slice (some ⟨b,o,none⟩) n cap) (li n f):=by
  obtain⟨k1,a,c,k2,k3,k4,k5⟩:=h.sl;refine⟨k1,a,c,k2,k3,k4,fun hn=>?_⟩;obtain⟨b',o',k6,k7⟩:=k5 hn;injection k2 with k2 _ _;rw[k6]at k2;injection k2 with k2;injection k2 with k2 k8;subst k2 k8;exact⟨b,o,k6,fun j u hu=>hx.cell (k7 j u hu) h2⟩
 refine⟨hs,b,o,cap,rfl,h1,fun hb=>?_,Nat.lt_of_lt_of_le h3 hx.size,fun j hj=>hx.cell (h4 j hj) h2⟩;rcases hx.mb b hb with h5|h5
 .exact h2 h5
 .omega
theorem Cv.ex{mb:List Nat}{w w':World}{n:Nat}{u:Value}{f:Nat->Nat}(h:Cv w mb n u f)(hx:Ex w w'):Cv w' mb n u f:=h.mx (Mx.ofEx hx mb)
theorem Cv.new{mb:List Nat}{w w':World}{n g:Nat}{f:Nat->Nat}(hn:1<=n)(h:AG w' w.heap.size 3 g n (iv fun i=>(f i:Int)))(hb:∀B∈mb,B<w.heap.size):Cv w' mb n (.slice (some ⟨g,0,none⟩) n n) f:=
 Cv.of h.li hn fun B e hB=>by
  injection e with e;have:=h.lt.1;have:=hb B hB;dsimp only at *;omega
def Lg(w:World)(mb:List Nat)(n:Nat)(o:Option (Nat->Nat))(u:Value):Prop:=match o with
 | none=>u= .slice none 0 0
 | some r=>Cv w mb n u r
theorem Lg.mx{mb aA:List Nat}{w w':World}{n:Nat}{o:Option (Nat->Nat)}{u:Value}(h:Lg w mb n o u)(hx:Mx mb aA w w'):Lg w' aA n o u:=by
 cases o with
 | none=>exact h
 | some r=>exact Cv.mx (show Cv w mb n u r from h) hx
structure RJ(w:World)(base n tb rb gb:Nat)(rr:Nat->Nat)(gv:Nat->Value)(V:Nat->Nat->Value)(mb:List Nat)(t:Tw):Prop where
 c0:w.cell? ⟨tb,0,none⟩=some (.int .i64 n)
 c1:w.cell? ⟨tb,1,none⟩=some (.slice (some ⟨rb,0,none⟩) n n)
 c2:w.cell? ⟨tb,2,none⟩=some (.slice (some ⟨gb,0,none⟩) n n)
 tm:tb ∉ mb
 ro:∀b,b<n->w.cell? ⟨rb,b,none⟩=some (.slice (some ⟨rr b,0,none⟩) n n)
 rm:rb ∉ mb
 row:∀b,b<n->AG w base 22 (rr b) n (V b)
 rep:∀b x,b<n->x<n->Lg w mb n (t.R b x) (V b x)
 go:AG w base 37 gb n gv
 gro:∀b,b<n->∃vals:List Value,w.ownsRow base 22 1 (gv b) (t.g b).length vals/\∀(i:Nat) (f:Nat->Nat) (u:Value),(t.g b)[i]?=some f->vals[i]?=some u->Cv w mb n u f
 gm:gb∈mb
 rrm:∀b,b<n->rr b∈mb
 gvm:∀b B,b<n->(gv b).ownBlock=some B->B∈mb/\B≠gb/\∀c,c<n->B≠rr c
 grr:∀b,b<n->gb≠rr b
 rri:∀b c,b<n->c<n->rr b=rr c->b=c
 gvi:∀b c B,b<n->c<n->(gv b).ownBlock=some B->(gv c).ownBlock=some B->b=c
 lo:∀B∈mb,base<=B/\B<w.heap.size
section
variable {w:World} {base n tb rb gb:Nat} {rr:Nat->Nat} {gv:Nat->Value} {V:Nat->Nat->Value} {mb:List Nat} {t:Tw}
theorem RJ.ex(h:RJ w base n tb rb gb rr gv V mb t){w':World}(hx:Ex w w'):RJ w' base n tb rb gb rr gv V mb t:=
 ⟨hx.cell h.c0,hx.cell h.c1,hx.cell h.c2,h.tm,fun b hb=>hx.cell (h.ro b hb),h.rm,fun b hb=>(h.row b hb).ex hx,fun b x hb aA=>(h.rep b x hb aA).mx (Mx.ofEx hx mb),h.go.ex hx,fun b hb=>by
  obtain⟨vals,h1,h2⟩:=h.gro b hb;exact⟨vals,Aj h1 hx,fun i f u a c=>(h2 i f u a c).ex hx⟩,h.gm,h.rrm,h.gvm,h.grr,h.rri,h.gvi,fun B hB=>⟨(h.lo B hB).1,Nat.lt_of_lt_of_le (h.lo B hB).2 hx.size⟩⟩
theorem RJ.low(h:RJ w base n tb rb gb rr gv V mb t):∀B∈mb,B<w.heap.size:=fun B hB=>(h.lo B hB).2
theorem b8{P:Prop}(h:P:=by simp[World.setCell]):P:=h
theorem RJ.setRep(h:RJ w base n tb rb gb rr gv V mb t){b x:Nat}{q:Nat->Nat}{u:Value}(hb:b<n)(hx:x<n)(hu:Cv w mb n u q):
  RJ (w.setCell ⟨rr b,x,none⟩ u) base n tb rb gb rr gv (fun c=>if c=b then Az (V b) x u else V c) mb (Lu t b x q)/\Mx mb mb w (w.setCell ⟨rr b,x,none⟩ u):=by
 have hm:=h.rrm b hb;have aB:(w.setCell ⟨rr b,x,none⟩ u).heap.size=w.heap.size:=b8;have aA:Mx mb mb w (w.setCell ⟨rr b,x,none⟩ u):=⟨rfl,rfl,rfl,ac,fun i hi hn=>Below.heap_setCell _ _ _ _ (fun e=>hn (by have e:i=rr b:=e;rw[e];exact hm)),fun B hB=> .inl hB⟩;refine⟨⟨aA.cell h.c0 h.tm,aA.cell h.c1 h.tm,aA.cell h.c2 h.tm,h.tm,fun c hc=>aA.cell (h.ro c hc) h.rm,h.rm,fun c hc=>?_,fun c y hc hy=>?_,h.go.other (h.grr b hb) u,fun c hc=>?_,h.gm,h.rrm,h.gvm,h.grr,h.rri,h.gvi,fun B hB=>by rw[aB];exact h.lo B hB⟩,aA⟩
 .by_cases e:c=b
  .subst e;rw[if_pos rfl];exact(h.row c hc).set x u
  .rw[if_neg e];exact(h.row c hc).other (fun e2=>e (h.rri c b hc hb e2)) u
 .show Lg _ mb n (if c=b/\y=x then some q else t.R c y) ((if c=b then Az (V b) x u else V c) y)
  by_cases e:c=b
  .subst e;rw[if_pos rfl];by_cases e2:y=x
   .subst e2;rw[if_pos ⟨rfl,rfl⟩,Ab];exact Cv.mx hu aA
   .rw[if_neg (fun e3=>e2 e3.2),Ae _ _ e2];exact(h.rep c y hc hy).mx aA
  .rw[if_neg (fun e3=>e e3.1),if_neg e];exact(h.rep c y hc hy).mx aA
 .obtain⟨vals,h1,h2⟩:=h.gro c hc;exact⟨vals,Ac h1 (fun e=>(h.gvm c _ hc e).2.2 b hb rfl) u,fun i f v a d=>(h2 i f v a d).mx aA⟩
theorem zaY{P:Prop}(h:P:=by
 have:=h.lo B h1;exact⟨this.1,by omega⟩):P:=h
theorem RJ.addGen(h:RJ w base n tb rb gb rr gv V mb t){b:Nat}{p:Nat->Nat}{u:Value}(hb:b<n)(hu:Cv w mb n u p){w':World}{v':Value}{vals:List Value}(hv:∀(i:Nat) (f:Nat->Nat) (u:Value),(t.g b)[i]?=some f->vals[i]?=some u->Cv w mb n u f)
  (ha:Bn w w' base 22 1 (gv b) v' (t.g b).length vals [u]):
  ∃aH,RJ (w'.setCell ⟨gb,b,none⟩ v') base n tb rb gb rr (Az gv b v') V aH (RI t b p)/\Mx mb aH w (w'.setCell ⟨gb,b,none⟩ v'):=by
 obtain⟨o,hg⟩:=ha.gr;have hgs:=ha.grow;have aO:∀B,v'.ownBlock=some B->B∈mb∨w.heap.size<B:=fun B e=>by
  rcases ha.at_ with h1|h1
  .rw[h1]at e;exact .inl (h.gvm b B hb e).1
  .rw[h1]at e;injection e with e;right;omega
 have aF:∀i,i<w.heap.size->some i≠(gv b).ownBlock->w'.heap[i]?=w.heap[i]?:=fun i hi aE=>by
  have h1:=hg.block i aq aE;rw[h1];exact((Ex.refl w).alloc o).block i hi
 have aJ:(w'.setCell ⟨gb,b,none⟩ v').heap.size=w'.heap.size:=b8;have aM:=ha.own.lt;have aD:w'.os=w.os/\w'.tape=w.tape/\w'.output=w.output:=⟨hg.os.trans rfl,hg.tape.trans rfl,hg.output.trans rfl⟩;have aB:Mx mb (v'.ownBlock.toList++mb) w (w'.setCell ⟨gb,b,none⟩ v'):=by
  refine⟨aD.1,aD.2.1,aD.2.2,by rw[aJ];omega,fun i hi hn=>?_,fun B hB=>?_⟩
  .rw[Below.heap_setCell _ _ _ _ (fun e=>hn (by have e:i=gb:=e;rw[e];exact h.gm)),aF i hi (fun e=>hn (h.gvm b i hb e.symm).1)]
  .rcases List.mem_append.1 hB with h1|h1
   .rcases aO B cw with h2|h2
    .exact .inl h2
    .exact .inr ac
   .exact .inl h1
 have aC:∀ {e:TypeId} {size:Nat} {v:Value} {m:Nat} {xs:List Value},w.ownsRow base e size v m xs->AQ v (gv b)->v.ownBlock≠some gb->(w'.setCell ⟨gb,b,none⟩ v').ownsRow base e size v m xs:=fun k hk aE=>
  Ac (ha.row k hk).1 (by exact aE) _
 have aA:∀B,(gv b).ownBlock=some B->B≠gb/\∀c,c<n->B≠rr c:=fun B e=>(h.gvm b B hb e).2;have aL:∀g,(∀B,(gv b).ownBlock=some B->B≠g)->∀(m cap:Nat),AQ (.slice (some ⟨g,0,none⟩) m cap) (gv b):=fun g hh m cap=>by
  right;intro e;exact hh g e.symm rfl
 refine⟨v'.ownBlock.toList++mb,⟨aB.cell h.c0 h.tm,aB.cell h.c1 h.tm,aB.cell h.c2 h.tm,fun hc=>?_,fun c hc=>aB.cell (h.ro c hc) h.rm,fun hc=>?_,fun c hc=>?_,fun c y hc hy=>(h.rep c y hc hy).mx aB,?_,fun c hc=>?_,List.mem_append_right _ h.gm,fun c hc=>List.mem_append_right _ (h.rrm c hc),fun c B hc e=>?_,h.grr,h.rri,fun c d B hc hd e1 e2=>?_,fun B hB=>?_⟩,aB⟩
 .rcases aB.mb tb hc with h1|h1
  .exact h.tm h1
  .have:=World.block_lt_of_cell? _ _ h.c0;dsimp only at this;omega
 .rcases aB.mb rb hc with h1|h1
  .exact h.rm h1
  .have:=World.block_lt_of_cell? _ _ (h.ro b hb);dsimp only at this;omega
 .exact aC (h.row c hc) (aL (rr c) (fun B e=>(aA B e).2 c hc) n n) (fun e=>h.grr c hc (by injection e with e;exact e.symm))
 .have h1:=(ha.row h.go (aL gb (fun B e=>(aA B e).1) n n)).1;have h2:AG w' base 37 gb n gv:=h1;exact h2.set b v'
 .by_cases e:c=b
  .subst e;refine⟨vals ++ [u],?_,fun i f v h1 h2=>?_⟩
   .rw[Ab];show World.ownsRow _ base 22 1 v' (if c=c then t.g c ++ [p] else t.g c).length (vals ++ [u])
    rw[if_pos rfl,List.length_append];refine Ac ha.own (fun e=>?_) _;rcases ha.at_ with h3|h3
    .rw[h3]at e;exact(aA _ e).1 rfl
    .rw[h3]at e;injection e with e;have:=h.go.lt.2;dsimp only at e;omega
   .have h1:(if c=c then t.g c ++ [p] else t.g c)[i]?=some f:=h1;rw[if_pos rfl]at h1;have hn:vals.length=(t.g c).length:=by have:=ha.old.1;omega
    by_cases hi:i<(t.g c).length
    .rw[List.getElem?_append_left hi]at h1;rw[List.getElem?_append_left ac]at h2;exact(hv i f v h1 h2).mx aB
    .have aN:i=(t.g c).length:=by
      have:=(List.getElem?_eq_some_iff.1 h1).1;rw[List.length_append]at this;simp at this;omega
     subst aN;rw[List.getElem?_append_right ac]at h1;rw[List.getElem?_append_right ac,hn]at h2;simp at h1 h2;subst h1 h2;exact hu.mx aB
  .obtain⟨aG,h1,h2⟩:=h.gro c hc;refine⟨aG,?_,fun i f v h3 h4=>?_⟩
   .rw[Ae _ _ e];show World.ownsRow _ base 22 1 (gv c) (if c=b then t.g c ++ [p] else t.g c).length aG
    rw[if_neg e];refine aC h1 ?_ (fun e2=>(h.gvm c _ hc e2).2.1 rfl);unfold AQ
    cases e2:(gv c).ownBlock with
    | none=>exact .inl rfl
    | some B=>right;intro e3;exact e (h.gvi c b B hc hb e2 e3.symm)
   .have h3:(if c=b then t.g c ++ [p] else t.g c)[i]?=some f:=h3;rw[if_neg e]at h3;exact(h2 i f v h3 h4).mx aB
 .by_cases e3:c=b
  .subst e3;rw[Ab]at e;refine⟨List.mem_append_left _ (by rw[e];simp),?_⟩;rcases ha.at_ with h1|h1
   .rw[h1]at e;exact aA B e
   .rw[h1]at e;injection e with e;subst e;have:=h.go.lt.2;exact⟨ac,fun d hd=>by have:=(h.row d hd).lt.2;omega⟩
  .rw[Ae _ _ e3]at e;have:=h.gvm c B hc e;exact⟨List.mem_append_right _ this.1,this.2⟩
 .have aI:∀ {c d B},c=b->d≠b->d<n->v'.ownBlock=some B->(gv d).ownBlock=some B->False:=fun {c d B} e hd aK k1 k2=>by
   rcases ha.at_ with h1|h1
   .rw[h1]at k1;exact hd (h.gvi d b B aK hb k2 k1)
   .rw[h1]at k1;injection k1 with k1;have:=(h.lo B (h.gvm d B aK k2).1).2;omega
  by_cases ec:c=b <;> by_cases ed:d=b
  .rw[ec,ed]
  .rw[ec,Ab]at e1;rw[Ae _ _ ed]at e2;exact(aI (c:=c) ec ed hd e1 e2).elim
  .rw[Ae _ _ ec]at e1;rw[ed,Ab]at e2;exact(aI (c:=d) ed ec hc e2 e1).elim
  .rw[Ae _ _ ec]at e1;rw[Ae _ _ ed]at e2;exact h.gvi c d B hc hd e1 e2
 .rw[aJ];rcases List.mem_append.1 hB with h1|h1
  .exact aM B cw
  .exact zaY
end
def Dg(l:List Int):Nat->Nat:=fun i=>if i<l.length then(l.getD i 0).toNat else i
theorem KQ{n:Nat}{f:Nat->Nat}(hf:Bw n f):Dg (li n f)=f:=funext fun i=>by
 unfold Dg;rw[E6];by_cases hi:i<n
 .rw[if_pos hi,List.getD_eq_getElem?_getD,DK hi];rfl
 .rw[if_neg hi,hf.off i ac]
theorem Yj(w:World):BO w (.slice none 0 0) []:=⟨[],Sl.nil w 1,fun i r u h=>by simp at h⟩
theorem Fn{w:World}{a:Option Addr}{n cap:Nat}{f:Nat->Nat}(h:Am w (.slice a n cap) (li n f))(hn:0<n):∃b o,a=some ⟨b,o,none⟩/\b<w.heap.size/\∀j,j<n->w.cell? ⟨b,o+j,none⟩=some (.int .i64 (f j:Int)):=by
 obtain⟨a',cap',e,_,_,h2⟩:=E9 h;injection e with e1 e2 e3;subst e1;obtain⟨b,o,h3,h4⟩:=h2 hn;exact⟨b,o,h3,World.block_lt_of_cell? _ _ (h4 0 hn),h4⟩
structure Cq(w0 wr:World)(base g n:Nat)(sf:Nat->Bool)(cyv:Value)(cyc:List Int)(cv:Value)(M:List (List Int))(vals:List Value):Prop where
 sn:AG wr w0.heap.size 4 g n (bv sf)
 cy:wr.ownsRow base 3 1 cyv cyc.length (Ao cyc)
 m:Bv wr base cv M vals
 ap1:AQ cyv cv
 ap2:∀u∈vals,AQ u cyv
 gb:g<base
 ex:Ex w0 wr
 wb:base<=wr.heap.size
section
variable {w0 wr:World} {base g n:Nat} {sf:Nat->Bool} {cyv:Value} {cyc:List Int} {cv:Value} {M:List (List Int)} {vals:List Value}
theorem Cq.later(h:Cq w0 wr base g n sf cyv cyc cv M vals){w':World}(hx:Ex wr w'):Cq w0 w' base g n sf cyv cyc cv M vals:=
 ⟨h.sn.ex hx,Aj h.cy hx,h.m.ex hx,h.ap1,h.ap2,h.gb,h.ex.trans hx,Nat.le_trans h.wb hx.size⟩
theorem Cq.congr(h:Cq w0 wr base g n sf cyv cyc cv M vals){sf':Nat->Bool}(hc:∀x,x<n->sf x=sf' x):Cq w0 wr base g n sf' cyv cyc cv M vals:=
 ⟨h.sn.bcongr hc,h.cy,h.m,h.ap1,h.ap2,h.gb,h.ex,h.wb⟩
theorem Cq.mark(h:Cq w0 wr base g n sf cyv cyc cv M vals)(x:Nat):Cq w0 (wr.setCell ⟨g,x,none⟩ (.bool true)) base g n (Az sf x true) cyv cyc cv M vals:=
 ⟨by rw[<-RD];exact h.sn.set x _,Ac h.cy (fun e=>by have:=(h.cy.lt _ e).1;have:=h.gb;dsimp only at *;omega) _,h.m.setNe h.gb _,h.ap1,h.ap2,h.gb,h.sn.exSet (Nat.le_refl _) h.ex x _,by have:=h.wb;simpa[World.setCell]using this⟩
theorem Cq.app(h:Cq w0 wr base g n sf cyv cyc cv M vals){x:Int}{w':World}{v':Value}(ha:Bn wr w' base 3 1 cyv v' cyc.length (Ao cyc) [.int .i64 x]):Cq w0 w' base g n sf v' (cyc ++ [x]) cv M vals:=by
 have aC:cyv.ownBlock≠some g:=fun e=>by have:=(h.cy.lt _ e).1;have:=h.gb;omega
 have aA:=ha.row h.m.cvo h.ap1.symm;have hn:=h.m.len;have aB:∀u∈vals,∃L:List Int,wr.ownsRow base 3 1 u L.length (Ao L):=fun u hu=>by
  obtain⟨i,hi,e⟩:=List.getElem_of_mem hu;exact⟨_,h.m.row i (M[i]'ac) u (List.getElem?_eq_getElem _) au⟩
 refine⟨(ha.arr h.sn aC).1,?_,⟨aA.1,fun i r u h1 h2=>(ha.row (h.m.row i r u h1 h2) (h.ap2 u (List.mem_of_getElem? h2))).1,h.m.apart⟩,aA.2.symm,fun u hu=>?_,h.gb,ha.ex h.ex (by have:=h.gb;have:=h.sn.lt.1;omega),by have:=ha.grow;have:=h.wb;omega⟩
 .have:=ha.own;rw[List.length_append];simpa[Ao]using this
 .obtain⟨L,hL⟩:=aB u hu;exact(ha.row hL (h.ap2 u hu)).2
theorem Cq.push(h:Cq w0 wr base g n sf cyv cyc cv M vals){w':World}{v':Value}(ha:Bn wr w' base 22 1 cv v' M.length vals [cyv]):Cq w0 w' base g n sf (.slice none 0 0) [] v' (M ++ [cyc]) (vals ++ [cyv]):=by
 have aA:cv.ownBlock≠some g:=fun e=>by have:=(h.m.cvo.lt _ e).1;have:=h.gb;omega
 refine⟨(ha.arr h.sn aA).1,World.ownsRow_nil _ _ _ _,h.m.app h.cy h.ap1 ha,AQ.nil _,fun u _=>?_,h.gb,ha.ex h.ex (by have:=h.gb;have:=h.sn.lt.1;omega),by have:=ha.grow;have:=h.wb;omega⟩;exact(AQ.nil u).symm
theorem Cq.start{w1:World}{n:Nat}(h:AG w1 w0.heap.size 4 w0.heap.size n (fun _=> .bool false))(hx:Ex w0 w1){sf:Nat->Bool}(hs:∀x,x<n->sf x=false):Cq w0 w1 (w0.heap.size+1) w0.heap.size n sf (.slice none 0 0) [] (.slice none 0 0) [] []:=
 ⟨h.congr fun j hj=>by show _=Value.bool (sf j);rw[hs j hj],World.ownsRow_nil _ _ _ _,Bv.nil _ _,AQ.nil _,fun u h'=>absurd h' (List.not_mem_nil),ac,hx,by have:=h.lt.2;omega⟩
end
theorem RW(w:World)(n:Nat)(c:Nat->Value)(v:Value)(hv:Sl w v n 1 (vs n c))(hn:1<=n)(hn2:n<=1000)(h1:∀j,j<n->(c j).oneCell'=true):
  Calls Tryz.prog 209 #[v] w fun r w'=>∃g cap,r= .returned (.slice (some ⟨g,0,none⟩) n cap)/\A6 w' w.heap.size 22 g n cap c/\Ex w w':=by
 have HV:=Aa hv;obtain⟨_,a,cap,rfl,s1,s2,s3⟩:=hv;obtain⟨b,o,rfl,_⟩:=s3 ac;have aC:=fun w'=>AP (P:=Tryz.prog) w' 37 22 (some ⟨b,o,none⟩) n cap Tryz.underlying37;simp only[Option.isNone]at aC;have aG:=Aa (show ∀u∈vs n c,u.oneCell'=true from by
  intro u hu;unfold vs at hu;obtain⟨j,hj,rfl⟩:=List.mem_map.1 hu;exact h1 j (List.mem_range.1 hj))
 clear s3 h1;go_enter Tryz.func209,Tryz.ntmps209
 go_wp2_with (at_builtin;refine Be _ rfl _ _ 37 rfl w.heap.size 22 (.slice none 0 0) 1 24 Tryz.underlying37 BH rfl ae _ 0 [] rfl (Bp w 22) (.slice (some ⟨b,o,none⟩) n cap) n (vs n c) rfl (HV.o.ex ((Ex.refl w).alloc _)) aG.o ai ac ag ?_)
 intro v1 w1 aA aE aF;have aD:Ex w w1:=Ex.grown ((Ex.refl w).alloc _) (Bp w 22) (Nat.le_refl _) aE
 try simp only[List.nil_append,Nat.zero_add]at aA
 obtain⟨g,c2,rfl,aB⟩:=JE aA hn;have HO:=Aa aB;have HX:=Aa aD;clear aB aA aE aF aD aC
 try simp only[Nat.zero_add]
 go_wp2_with fail
 go_ret;exact⟨g,c2,rfl,HO.o,HX.o⟩
theorem Tx(w:World){base n tb rb gb:Nat}{rr:Nat->Nat}{gv:Nat->Value}{V:Nat->Nat->Value}{mb:List Nat}{t:Tw}(hm:RJ w base n tb rb gb rr gv V mb t)(hG:CQ n t)(hn1:1<=n)(hn:n<=64)
  (u:Value) (f:Nat->Nat) (b:Nat) (hb:b<=n) (hu:Am w u (li n f)) (hP:Bw n f):
  Calls Tryz.prog 208 #[.pointer (some ⟨tb,0,none⟩),u,.int .i64 b] w fun r w'=>∃v,r= .returned (.tuple #[v,.int .i64 ((DC n t.R (n-b) b f).2:Int)])/\Ex w w':=by
 obtain⟨HM,HG,HU,HP⟩:=Eq hm hG hu hP;obtain⟨ua,uc,rfl,_,_,_⟩:=E9 hu;obtain⟨E,hE⟩:=nA (DC n t.R (n-b) b f);have HE:=Aa hE;rw[hE];have aL:∀(a:Option Addr) (m cap:Nat) w',(binOp .eql 22 (.slice a m cap) (.slice none 0 0)).run Tryz.prog w'= .ok (.bool a.isNone) w':=fun a m cap w'=>AP (P:=Tryz.prog) w' 22 3 a m cap Tryz.underlying22;have aE:=Aa aL;clear hm hG hu hP hE aL;go_enter Tryz.func208,Tryz.ntmps208
 go_wp2_with fail
 go_loopw [1,2] (fun p' b' wr=>∃(c:Nat) (h:Nat->Nat) (a:Option Addr) (cap:Nat),c<=n/\b'= .int .i64 c/\p'= .slice a n cap/\Hia (Am wr (.slice a n cap) (li n h))/\Hia (Bw n h)/\Hia (DC n t.R (n-c) c h=E)/\Hia (Ex w wr)) (fun _ b' _=>n-(intOf b').toNat)
 case atStart=>exact⟨b,f,ua,uc,hb,rfl,rfl,HU,HP,HE,Aa (Ex.refl _)⟩
 case round=>
  clear HU HP HE;obtain⟨c,h,a,cap,hc,rfl,rfl,hu,hp,he,hx⟩:=hrel;have c0:=hx.o.cell HM.o.c0;have c1:=hx.o.cell HM.o.c1;by_cases hcn:c<n
  .obtain⟨pb,po,rfl,_,aH⟩:=Fn hu.o ac;have aK:=hp.o.lt c hcn;have d1:=aH c hcn;have d2:=hx.o.cell (HM.o.ro c hcn);have d3:=hx.o.cell ((HM.o.row c hcn).cell aK);have aA:=HM.o.rep c (h c) hcn aK;have i1:(0:Int)<=(c:Int):=by omega
   have i2:(c:Int)<(n:Int):=ac;have i3:(0:Int)<=(h c:Int):=ac;have i4:(h c:Int)<(n:Int):=ac
   cases hR:t.R c (h c) with
   | none=>
    rw[hR]at aA;have aA:V c (h c)= .slice none 0 0:=aA;rw[aA]at d3;have aD:=Aa (show E=(h,c) from by
     rw[<-he.o,show n-c=n-c-1+1 by omega];unfold DC;rw[hR])
    have aC:=aE.o none 0 0;simp only[Option.isNone]at aC;clear aH aA hR he hp;go_wp2_with fail
    go_quiet (fail)
    go_wp2_with fail
    go_ret2;refine⟨.slice (some ⟨pb,po,none⟩) n cap,?_,hx.o.drewN _⟩;rw[aD.o];rfl
   | some r=>
    rw[hR]at aA;have aA:Cv w mb n (V c (h c)) r:=aA;obtain⟨_,_,aG,aT,aS⟩:=HG.o.rep _ _ _ hR;obtain⟨vb,vo,vc,hV,_,_,_,_⟩:=(aA.ex hx.o).at_;have aQ:=Aa (aA.ex hx.o).sl;rw[hV]at d3 aQ;have aD:=Aa (show DC n t.R (n-(c+1)) (c+1) (Ar h (A8 n r))=E from by
     rw[<-he.o,show n-c=n-(c+1)+1 by omega]
     conv=>rhs;unfold DC
     rw[hR])
    have aC:=aE.o (some ⟨vb,vo,none⟩) n vc;simp only[Option.isNone]at aC;have aV:=Aa aG;have aP:=Aa (hp.o.comp aG.inv);have aW:=Aa (fun w1 (aF:Ex wr w1)=>Jl w1 n r _ (aQ.o.ex aF) ac aV.o);have aU:=Aa (fun w1 (aF:Ex wr w1) z hz=>F5 w1 n h (A8 n r) _ z (hu.o.ex aF) hz ac hp.o.lt);clear aH aA hR he aG aT aS hV;go_wp2_with fail
    go_quiet (fail)
    have aM:=Aa ((Ex.refl wr).drewN nq);go_wp2_with (first|(go_at_call 109;refine(aW.o _ aM.o).mono ?_;rintro e w2⟨g2,rfl,aB,aJ⟩;have aX:=Aa aB.li;have aO:=Aa (aM.o.trans aJ);clear aB aJ)|(go_at_call 108;refine(aU.o _ aO.o _ aX.o).mono ?_;rintro e w3⟨g3,rfl,aB,aI⟩;have aR:=Aa aB.li;have aN:=Aa (hx.o.trans (aO.o.trans aI));clear aB aI))
    go_roundw
    case rel=>first|exact⟨c+1,Ar h (A8 n r),some ⟨g3,0,none⟩,n,ac,by go_num,rfl,aR,aP,aD,aN⟩|((repeat apply Exists.intro);exact⟨⟨c+1,Ar h (A8 n r),some ⟨g3,0,none⟩,n,ac,by go_num,rfl,aR,aP,aD,aN⟩,rfl⟩)
    case measure=>simp[intOf];omega
  .obtain rfl:c=n:=by omega
   have aD:=Aa (show E.2=c from by
    rw[<-he.o,Nat.sub_self];rfl)
   clear he hp;go_wp2_with fail
   go_quiet (fail)
   go_wp2_with fail
   go_ret2;refine⟨.slice a c cap,?_,hx.o.drewN _⟩;rw[aD.o];rfl
def EL(n:Nat)(f g:Nat->Nat):Prop:=(∀i,i<n->f i=g i)∨∃i,i<n/\(∀j,j<i->f j=g j)/\f i<g i
theorem EL.antisymm{n:Nat}{f g:Nat->Nat}(hf:Bw n f)(hg:Bw n g)(h:EL n f g)(k:EL n g f):f=g:=by
 rcases h with h|⟨i,hi,h1,h2⟩
 .exact Hx hf hg h
 .rcases k with k|⟨j,hj,k1,k2⟩
  .have:=k i hi;omega
  .rcases Nat.lt_trichotomy i j with e|e|e
   .have:=k1 i e;omega
   .subst e;omega
   .have:=h1 j e;omega
def CN(R:Nat->Option (Nat->Nat))(p:Nat->Nat)(c:Nat):Nat->Nat
 | 0=>c
 | x+1=>if (R x).isSome=true/\p x<p (CN R p c x) then x else CN R p c x
theorem Gm{R:Nat->Option (Nat->Nat)}{p:Nat->Nat}{c:Nat}(hc:(R c).isSome=true):∀x,(R (CN R p c x)).isSome=true/\(∀y,y<x->(R y).isSome=true->p (CN R p c x)<=p y)/\p (CN R p c x)<=p c
 | 0=>⟨hc,fun y h=>by omega,Nat.le_refl _⟩
 | x+1=>by
  obtain⟨h1,h2,h3⟩:=Gm (p:=p) hc x;unfold CN;split
  .rename_i h;refine⟨h.1,fun y hy hr=>?_,ac⟩;by_cases e:y=x
   .subst e;exact Nat.le_refl _
   .have:=h2 y ac hr;omega
  .rename_i h;refine⟨h1,fun y hy hr=>?_,h3⟩;by_cases e:y=x
   .subst e;apply Classical.byContradiction;intro hn;exact h ⟨hr,ac⟩
   .exact h2 y ac hr
def Ta(n:Nat)(R:Nat->Nat->Option (Nat->Nat)):Nat->Nat->(Nat->Nat)->(Nat->Nat)
 | 0,_,p=>p
 | k+1,c,p=>Ta n R k (c+1) (Ar ((R c (CN (R c) p c n)).getD EN) p)
theorem Qa{n:Nat}{t:Tw}(hG:CQ n t):∀k c p,c+k=n->Bw n p->
  (∃h,Bw n h/\AW c h/\Sf n t.R k c h/\Ta n t.R k c p=Ar h p)/\∀h,Bw n h->AW c h->Sf n t.R k c h->EL n (Ta n t.R k c p) (Ar h p)
 | 0,c,p,hc,hp=>by
  refine⟨⟨EN,FD n,KR _,trivial,rfl⟩,fun h hP hF _=> .inl fun i hi=>?_⟩;have:h=EN:=AW.all hP (by
    have:c=n:=ac;subst this;exact hF)
  subst this;rfl
 | k+1,c,p,hc,hp=>by
  have aF:=hG.one c ac;obtain⟨aL,aK,_⟩:=Gm (R:=t.R c) (p:=p) (c:=c) (by rw[aF];rfl) n;obtain⟨r,hr⟩:=Option.isSome_iff_exists.1 aL;obtain⟨_,hbn,aB,aE,aD⟩:=hG.rep _ _ _ hr;obtain⟨⟨h0,aN,aH,aM,aG⟩,hL⟩:=Qa hG k (c+1) (Ar r p) ac (aB.comp hp);have he:Ta n t.R (k+1) c p=Ta n t.R k (c+1) (Ar r p):=by
   show Ta n t.R k (c+1) (Ar ((t.R c (CN (t.R c) p c n)).getD EN) p)=_
   rw[hr];rfl
  rw[he];have aC:∀i,i<c->h0 i=i:=fun i hi=>aH i ac;refine⟨⟨Ar h0 r,aN.comp aB,fun i hi=>?_,⟨r,?_,?_⟩,?_⟩,fun h hP hF hS=>?_⟩
  .show r (h0 i)=i
   rw[aC i hi,aE i hi]
  .show t.R c (r (h0 c))=some r
   rw[aH c ac,aD];exact hr
  .rw[EH,aB.then_inv];exact aM
  .rw[aG];rfl
  .obtain⟨s,aA,aJ⟩:=hS;obtain⟨_,aI,hsP,hsF,hsb⟩:=hG.rep _ _ _ aA;have hle:=aK (h c) aI (by rw[aA];rfl);by_cases e:p (CN (t.R c) p c n)=p (h c)
   .have e2:=hp.inj _ _ e;rw[<-e2,hr]at aA;injection aA with aA;subst aA;have:=hL (Ar h (A8 n r)) (hP.comp aB.inv) (hF.div aB aE (by rw[aD,e2])) aJ
    rwa[<-EH,aB.cancel]at this
   .right;refine⟨c,ac,fun j hj=>?_,?_⟩
    .rw[aG];show p (r (h0 j))=p (h j)
     rw[aC j hj,aE j hj,hF j hj]
    .rw[aG];show p (r (h0 c))<p (h c)
     rw[aH c ac,aD];omega
structure DQ(n:Nat)(S:List (Nat->Nat))(b x:Nat)(f:Nat->Nat):Prop where
 gn:Gn S f
 fix:AW b f
 at_:f b=x
 le:∀g,Gn S g->AW b g->g b=x->EL n f g
theorem DQ.uniq{n:Nat}{S:List (Nat->Nat)}(hS:∀s∈S,Bw n s){b x:Nat}{f g:Nat->Nat}(hf:DQ n S b x f)(hg:DQ n S b x g):f=g:=
 EL.antisymm (hf.gn.isP hS) (hg.gn.isP hS) (hf.le g hg.gn hg.fix hg.at_) (hg.le f hf.gn hf.fix hf.at_)
theorem Io.canon{n k:Nat}{S:List (Nat->Nat)}{t:Tw}(hn:1<=n)(hS:∀s∈S,Bw n s)(h:Io n S t k)(hk:S.length<=k){b x:Nat}(hb:b<n){r:Nat->Nat}(hr:t.R b x=some r):DQ n S b x (Ta n t.R (n-(b+1)) (b+1) r):=by
 obtain⟨_,_,aA,aF,aD⟩:=h.good.rep _ _ _ hr;obtain⟨⟨h0,aJ,aC,aI,aB⟩,hL⟩:=Qa h.good (n-(b+1)) (b+1) r ac aA;have aK:=(h.grp hn hS hk ac aJ aC).1 aI;have aE:Gn S r:=h.snd.1 b x r (Nat.zero_le _) hr;refine⟨by rw[aB];exact aK.mul aE,fun i hi=>?_,?_,fun g hg hF aH=>?_⟩
 .rw[aB];show r (h0 i)=i
  rw[aC i ac,aF i hi]
 .rw[aB];show r (h0 b)=x
  rw[aC b ac,aD]
 .have aG:=hg.isP hS;have h1:AW (b+1) (Ar g (A8 n r)):=hF.div aA aF (by rw[aD,aH]);have h2:=(h.grp hn hS hk ac (aG.comp aA.inv) h1).2 (hg.mul (aE.inv hS));have:=hL _ (aG.comp aA.inv) h1 h2
  rwa[aA.cancel]at this
open Classical in
noncomputable def FY (n:Nat) (S:List (Nat->Nat)) (b x:Nat):Nat->Nat:=if h:∃f,DQ n S b x f then Classical.choose h else EN
open Classical in
theorem JF {n:Nat} {S:List (Nat->Nat)} (hS:∀s∈S,Bw n s) {b x:Nat} {f:Nat->Nat} (h:DQ n S b x f):FY n S b x=f:=by
 have he:∃f,DQ n S b x f:=⟨f,h⟩;unfold FY;rw[dif_pos he];exact DQ.uniq hS (Classical.choose_spec he) h
structure Lv where
 pt:Int
 orb:List Int
 reps:List (List Int)
section
open Go.RowKit Go.ChangeShapes Go.WideShapes Go.ChangeAt
theorem XO:∀(es:List Rf) (aA:List Value),aA.length=es.length->∀i,i<es.length->∀j,j<4->(Mi es aA)[i*4+j]?=(((es.getD i OD).cells (aA.getD i undef)))[j]?:=fun es=>by
 exact za6
section
variable {H:Type} {enc:TypeId × Value->H} {W:World} {held:Bool}
theorem UZ{aC:Nat}{v:Value}{y:DataW H × List MemPlace}(h:DataW.trod enc Tryz.prog W 0 (fun _=>true) held aC 92 [v]=some y):∃es,Qz W v es:=by
 rcases Go.Deep.open_slice Tryz.underlying92 h with⟨hcs,_⟩|⟨x,len,cap,m,n,D,Pl,hcs,_,hl,hm,hmm,_,hr⟩
 .simp at hcs;subst hcs;exact⟨[],Qz.nil W⟩
 .simp at hcs;subst hcs;simp only[if_true]at hmm;subst hmm;rw[show Tryz.prog.cellsOf 176=4 by kernel_rfl]at hr;have aH:∀i,i<len->∃q:Rf × Value,W.cell? (x.add (i*4))=some (.int .i64 q.1.tp)/\W.cell? (x.add (i*4+1))=some (.int .i64 q.1.sc)/\W.cell? (x.add (i*4+2))=some (.int .i64 q.1.side)/\W.cell? (x.add (i*4+3))=some q.2/\Am W q.2 q.1.msg:=fun i hi=>by
   obtain⟨aM,h1,h2⟩:=hr i ac;obtain⟨_,aB,aA⟩:=World.cells?_some h1;obtain⟨xs,k,_,_,_,aI,hf⟩:=DataW.trod_struct Tryz.underlying176 h2
   match xs,aI,aM,aB with
   | [y0,y1,y2,y3],_, [v0,v1,v2,v3],_=>
    have g0:=hf 0 _ rfl;have g1:=hf 1 _ rfl;have g2:=hf 2 _ rfl;have g3:=hf 3 _ rfl;simp[show Tryz.prog.cellsOf 3=1 by kernel_rfl,show Tryz.prog.cellsOf 22=1 by kernel_rfl]at g0 g1 g2 g3;have e0:=aA 0 ac;have e1:=aA 1 ac;have e2:=aA 2 ac;have e3:=aA 3 ac;rw[Go.Deep.add_add]at e0 e1 e2 e3;obtain⟨p0,aG,_,_⟩:=DataW.trod_int Tryz.underlying3 g0;obtain⟨p1,aF,_,_⟩:=DataW.trod_int Tryz.underlying3 g1;obtain⟨p2,aE,_,_⟩:=DataW.trod_int Tryz.underlying3 g2;simp at aG aF aE;subst aG aF aE;obtain⟨l,hl⟩:=Es g3;exact⟨(⟨p0,p1,p2,l⟩,v3),by simpa using e0,by simpa using e1,by simpa using e2,by simpa using e3,hl⟩
  haveI:Inhabited (Rf × Value):=⟨(OD,.bool false)⟩
  obtain⟨q,hq⟩:=Go.Deep.choose_lt aH;have hL:((List.range len).map fun i=>(q i).1).length=len:=ag;have hO:((List.range len).map fun i=>(q i).2).length=len:=ag;have aL:∀i,i<len->((List.range len).map fun i=>(q i).1).getD i OD=(q i).1:=fun i hi=>by
   rw[List.getD_eq_getElem?_getD];simp[hi]
  have aK:∀i,i<len->((List.range len).map fun i=>(q i).2).getD i undef=(q i).2:=fun i hi=>by
   rw[List.getD_eq_getElem?_getD];simp[hi]
  have aB:(Mi ((List.range len).map fun i=>(q i).1) ((List.range len).map fun i=>(q i).2)).length=len*4:=by
   rw[Nk _ _ (by rw[hL,hO]),hL]
  refine⟨(List.range len).map fun i=>(q i).1,(List.range len).map fun i=>(q i).2,by rw[hL,hO],⟨by rw[aB,hL],some x,m,by rw[hL],by rw[hL];exact hl,hm,fun hn=>?_⟩,fun i e mv h1 h2=>?_⟩
  .rw[hL]at hn;have h0:=(hq 0 hn).1;have hx:=Iu h0 (.inl ⟨_,_,rfl⟩);have aJ:(x.add (0*4))=x:=by simp[Addr.add]
   rw[aJ]at hx;refine⟨x.block,x.off,congrArg some hx,fun j u hu=>?_⟩;have hj:j<len*4:=by
    have:=(List.getElem?_eq_some_iff.1 hu).1;rw[aB]at this;exact this
   obtain⟨i,r,aD,rfl⟩:∃i r,r<4/\j=i*4+r:=⟨j/4,j%4,Nat.mod_lt _ ac,ac⟩;have hi:i<len:=br;obtain⟨k0,k1,k2,k3,_⟩:=hq i hi;rw[hx,Ok]at k0 k1 k2 k3;rw[XO _ _ (by rw[hL,hO]) i (by rw[hL];exact hi) r aD,aL i hi,aK i hi]at hu
   match r,aD with
   | 0,_=>simp[Rf.cells]at hu;rw[Nat.add_zero,<-hu];exact k0
   | 1,_=>simp[Rf.cells]at hu;rw[<-hu];exact k1
   | 2,_=>simp[Rf.cells]at hu;rw[<-hu];exact k2
   | 3,_=>simp[Rf.cells]at hu;rw[<-hu];exact k3
  .have hi:i<len:=by have:=(List.getElem?_eq_some_iff.1 h1).1;simpa using this
   simp[hi]at h1 h2;subst h1 h2;exact(hq i hi).2.2.2.2
theorem c_code:Tryz.prog.cellsOf 39=5:=ah
theorem c_part:Tryz.prog.cellsOf 71=2:=ah
theorem c_refu:Tryz.prog.cellsOf 94=1:=ah
theorem c_entr:Tryz.prog.cellsOf 92=1:=ah
theorem TR{r:Reach}{b0:Nat}{v:Value}{d:DataW H}{p:List MemPlace}(hv:Value.okWide Tryz.prog W r b0 39 v)(h:DataW.Trod enc Tryz.prog W 0 (fun _=>true) held 39 v d p):
  ∃(c:AU) (mv gv:Value),v=c.arg mv gv/\c.at W mv gv:=by
 obtain⟨cs,rfl,aC⟩:=FA Tryz.underlying39 hv;obtain⟨c0,c1,c2,c3,c4,rfl⟩:=array5 (aC.trans c_code);obtain⟨fuel,hf⟩:=h;obtain⟨xs,k,_,_,_,aB,aA⟩:=DataW.trod_struct Tryz.underlying39 hf;have g0:=aA 0 _ rfl;have g1:=aA 1 _ rfl;have g2:=aA 2 _ rfl
 match xs,aB with
 | [y0,y1,y2],_=>
  simp[WG,ZD,c_rows,Value.cells]at g0 g1 g2;obtain⟨P,M,ml,rfl,rfl,hm⟩:=MC g0;obtain⟨N,e0,_,_⟩:=DataW.trod_int Tryz.underlying3 g1;obtain⟨rows,hr⟩:=Vz g2;simp at e0;subst e0;exact⟨⟨P,M,ml,N,rows⟩,_,_,rfl,hm,hr⟩
theorem Q5{aA:Nat}{c0 c1:Value}{y:DataW H × List MemPlace}(h:DataW.trod enc Tryz.prog W 0 (fun _=>true) held aA 71 [c0,c1]=some y):
  ∃(tl sl:List Int),Am W c0 tl/\Am W c1 sl:=by
 obtain⟨xs,k,_,_,_,aB,hf⟩:=DataW.trod_struct Tryz.underlying71 h;have g0:=hf 0 _ rfl;have g1:=hf 1 _ rfl
 match xs,aB with
 | [y0,y1],_=>
  simp[RC]at g0 g1;obtain⟨l,hl⟩:=Es g0;obtain⟨l',aC⟩:=Es g1;exact⟨l,l',hl,aC⟩
theorem Ze{α:Type}{cs:Array α}(h:cs.size=2):∃c0 c1,cs= #[c0,c1]:=by
 obtain⟨l⟩:=cs
 match l,h with
 | [c0,c1],_=>exact⟨c0,c1,rfl⟩
theorem open_part{r:Reach}{b0:Nat}{v:Value}{d:DataW H}{p:List MemPlace}(hv:Value.okWide Tryz.prog W r b0 71 v)(h:DataW.Trod enc Tryz.prog W 0 (fun _=>true) held 71 v d p):
  ∃(tv sv:Value) (tl sl:List Int),v= .agg #[tv,sv]/\Am W tv tl/\Am W sv sl:=by
 obtain⟨cs,rfl,aA⟩:=FA Tryz.underlying71 hv;obtain⟨c0,c1,rfl⟩:=Ze (aA.trans c_part);obtain⟨fuel,hf⟩:=h;obtain⟨tl,sl,h1,h2⟩:=Q5 dj;exact⟨_,_,tl,sl,rfl,h1,h2⟩
theorem Z8{aA:Nat}{c0:Value}{y:DataW H × List MemPlace}(h:DataW.trod enc Tryz.prog W 0 (fun _=>true) held aA 94 [c0]=some y):∃es,Qz W c0 es:=by
 obtain⟨xs,k,_,_,_,aB,hf⟩:=DataW.trod_struct Tryz.underlying94 h;have g0:=hf 0 _ rfl
 match xs,aB with
 | [y0],_=>
  simp[c_entr]at g0;exact UZ g0
end
end
end Go.Proofs.YtehieobniamagaaGreat
